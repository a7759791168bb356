/- Structs in memory: whole, by their fields, as elements of slices. No program in sight. -/
import Derived.Laws.Tables
import Derived.Laws.MakeOwn
import Derived.Test.YtdjjiblijbjobaaDoorTailW
import Derived.Test.YtdjjiblijbjobaaDoorOps2
namespace Go.Proofs.YtdjjiblijbjobaaDoor
open Go.RowKit
variable {D : List Deferred}

section
variable {P : Program} {a : Act} {o : Oper} {w w0 : World} {n s : Nat} {L : List (Nat × Value)} {v : Value} {x y z : Operand} {g : Nat} {t ty : TypeId}
theorem run_ldS {cs : List Value} {b off : Nat} (ho : o.op = .load ty x) (hx : a.eval x = .pointer (some ⟨b, off, none⟩)) (hag : (isAgg ty).run P w = .ok true w) (hz : (sizeOf ty).run P w = .ok cs.length w) (hc : ∀ j u, cs[j]? = some u → w.cell? ⟨b, off + j, none⟩ = some u) :
    (execOp a.eval o).run P w = .ok (.value (.agg cs.toArray)) w := by
  have hl := run_loadCells_list (P := P) w ⟨b, off, none⟩ cs (fun j u hj => by rw [addr_add]; exact hc j u hj)
  unfold execOp
  simp only [ho, hx, Instr.loadAt, Instr.sureAddr, Sem.run_bind, Sem.run_pure, Result.andThen_ok, loadVar, hag, hz, if_true, hl]
/-- a field's address, and what lies there. -/
theorem run_fldG {fs : Array Field} {i m : Nat} {fd : Field} {ad : Addr} (ho : o.op = .fieldAddr t x i) (hx : a.eval x = .pointer (some ad)) (hu : P.underlying t = some (.struct fs)) (hi : fs[i]? = some fd) (hb : fd.offset = s) (hz : (sizeOf fd.type).run P w = .ok m w) (hm : m ≠ 0) : (execOp a.eval o).run P w = .ok (.value (.pointer (some (ad.add s)))) w := by
  unfold execOp
  simp only [ho, hx]
  simp [Instr.fieldAt, run_underlying hu, hi, fieldPlace, Instr.sureAddr, hb, hz, hm]
theorem run_fldA {fs : Array Field} {i m : Nat} {fd : Field} (ho : o.op = .fieldAddr t x i) (hx : a.eval x = .pointer (some ⟨g, 0, none⟩)) (hu : P.underlying t = some (.struct fs)) (hi : fs[i]? = some fd) (hb : fd.offset = s) (hz : (sizeOf fd.type).run P w = .ok m w) (hm : m ≠ 0) : (execOp a.eval o).run P w = .ok (.value (.pointer (some ⟨g, s, none⟩))) w := by
  have h := run_fldG (a := a) ho hx hu hi hb hz hm
  rwa [addr_add, Nat.zero_add] at h
theorem run_ldF {cs : Array Value} {i : Nat} {u : Value} (ho : o.op = .load ty x) (hx : a.eval x = .pointer (some ⟨g, i, none⟩)) (hB : Blk w g t cs) (hc : cs[i]? = some u) (hag : (isAgg ty).run P w = .ok false w) : (execOp a.eval o).run P w = .ok (.value u) w :=
  run_ldC ho hx (by rw [hB.cell]; exact hc) hag
theorem run_blt {parts : Array (Nat × Operand)} {vs : Array (Nat × Value)} {cs : Array Value} (ho : o.op = .build t parts) (hp : (parts.map fun (i, x) => (i, a.eval x)) = vs) (hb : P.built t vs.toList = some cs) : (execOp a.eval o).run P w = .ok (.value (.agg cs)) w := by
  have := run_build (P := P) w t vs cs hb
  unfold execOp
  simp only [ho, hp, Sem.run_bind, this, Result.andThen_ok, Sem.run_pure]
theorem retBT {fn : Func} {R : Ending → World → Prop} {s2 m : Nat} {v2 : Value} {cs : Array Value} {d : TypeDesc} (hF : Fr a n L) (hr : fn.results = #[.cell s ty, .tmp s2]) (hl : lk L s = some (.pointer (some ⟨g, 0, none⟩))) (hB : Blk w g t cs) (hu : P.underlying ty = some d)
    (hd : (match d with | .struct _ | .array _ _ => true | _ => false) = true) (hi : (P.info? ty).map (·.size) = some m) (hm : cs.size = m) (hl2 : lk L s2 = some v2) (h : R (.returned (.tuple #[.agg cs, v2])) w) : bodyPost P fn R .ret a w := by
  have e1 : a.tmps[s]?.getD undef = .pointer (some ⟨g, 0, none⟩) := by rw [hF.at s hl]; rfl
  have e2 : a.tmps[s2]?.getD undef = v2 := by rw [hF.at s2 hl2]; rfl
  refine bodyPost_ret (v := .tuple #[.agg cs, v2]) ?_ hF.defers h
  simp [results, hr, e1, e2, asAddr, run_loadVar_row w g t ty cs (0, 0) d hB hu hd (by rw [hm]; exact hi)]
/-- the address of a cell of a slice. -/
def slPtr : Value → Nat → Value
  | .slice (some ad) _ _, q => .pointer (some (ad.add q))
  | _, _ => undef
theorem slPtr_of {m cnt : Nat} {cs : List Value} (h : Sl w v m cnt cs) (hc : 0 < cnt) : ∃ b off c, v = .slice (some ⟨b, off, none⟩) cnt c ∧ ∀ q, slPtr v q = .pointer (some ⟨b, off + q, none⟩) ∧ ∀ u, cs[q]? = some u → w.cell? ⟨b, off + q, none⟩ = some u := by
  rcases h.2 with ⟨_, h2⟩ | ⟨b, off, c, h1, h2, h3⟩
  · omega
  · subst h1
    exact ⟨b, off, c, rfl, fun q => ⟨by simp only [slPtr, addr_add], fun u hu => h3 q u hu⟩⟩
theorem run_atP {e : TypeId} {k : IntKind} {p : Int} {m cnt i : Nat} {cs : List Value} (ho : o.op = .indexAddr t x y) (hx : a.eval x = v) (hy : a.eval y = .int k p) (hp : p = (i : Int)) (hs : Sl w v m cnt cs) (hi : i < cnt) (hu : P.underlying t = some (.slice e)) (hz : (sizeOf e).run P w = .ok m w) : (execOp a.eval o).run P w = .ok (.value (slPtr v (i * m))) w := by
  obtain ⟨b, off, c, rfl, hq⟩ := slPtr_of hs (by omega)
  subst hp
  have he : P.elem t = e := by simp [Program.elem, hu]
  have ht : P.underlying t = some (.slice (P.elem t)) := by rw [he]; exact hu
  have hz2 : (sizeOf (P.elem t)).run P w = .ok m w := by rw [he]; exact hz
  have hr := run_indexAt_slice (P := P) w t ⟨b, off, none⟩ cnt c k (i : Int) ht
  unfold execOp
  simp only [ho, hx, hy]
  rw [Sem.run_bind, hr, hz2, if_pos (by omega)]
  simp [slPtr]
theorem run_fldP {fs : Array Field} {i m m2 cnt q : Nat} {fd : Field} {cs : List Value} (ho : o.op = .fieldAddr t x i) (hx : a.eval x = slPtr v q) (hs : Sl w v m cnt cs) (hc : 0 < cnt) (hu : P.underlying t = some (.struct fs)) (hi : fs[i]? = some fd) (hb : fd.offset = s) (hz : (sizeOf fd.type).run P w = .ok m2 w) (hm : m2 ≠ 0) : (execOp a.eval o).run P w = .ok (.value (slPtr v (q + s))) w := by
  obtain ⟨b, off, c, rfl, hq⟩ := slPtr_of hs hc
  have h := run_fldG (a := a) ho hx hu hi hb hz hm
  rw [h]
  simp only [slPtr, addr_add]
  rw [Nat.add_assoc]
theorem run_ldP {m cnt q : Nat} {cs : List Value} {u : Value} (ho : o.op = .load ty x) (hx : a.eval x = slPtr v q) (hs : Sl w v m cnt cs) (hu : cs[q]? = some u) (hag : (isAgg ty).run P w = .ok false w) : (execOp a.eval o).run P w = .ok (.value u) w := by
  have hc : 0 < cnt := by
    have := (List.getElem?_eq_some_iff.1 hu).1
    rw [hs.1] at this
    exact Nat.pos_of_ne_zero fun e => by subst e; simp at this
  obtain ⟨b, off, c, rfl, hq⟩ := slPtr_of hs hc
  rw [(hq q).1] at hx
  exact run_ldC ho hx ((hq q).2 u hu) hag
theorem run_ldPS {m cnt q : Nat} {cs ys : List Value} (ho : o.op = .load ty x) (hx : a.eval x = slPtr v q) (hs : Sl w v m cnt cs) (hc : 0 < cnt) (hy : ∀ j u, ys[j]? = some u → cs[q + j]? = some u) (hag : (isAgg ty).run P w = .ok true w) (hz : (sizeOf ty).run P w = .ok ys.length w) : (execOp a.eval o).run P w = .ok (.value (.agg ys.toArray)) w := by
  obtain ⟨b, off, c, rfl, hq⟩ := slPtr_of hs hc
  rw [(hq q).1] at hx
  exact run_ldS ho hx hag hz fun j u hj => by rw [Nat.add_assoc]; exact (hq (q + j)).2 u (hy j u hj)
/-- elements of m cells each. -/
theorem flat_at {α : Type} {f : α → List Value} {m : Nat} (hf : ∀ x, (f x).length = m) : ∀ {l : List α} {i : Nat} {x : α} (_ : l[i]? = some x) (j : Nat) {u : Value} (_ : (f x)[j]? = some u), (l.flatMap f)[i * m + j]? = some u
  | [], i, x, hx, _, _, _ => by simp at hx
  | y :: l, 0, x, hx, j, u, hu => by
    simp only [List.getElem?_cons_zero, Option.some.injEq] at hx
    subst hx
    have hj : j < (f y).length := (List.getElem?_eq_some_iff.1 hu).1
    rw [List.flatMap_cons, Nat.zero_mul, Nat.zero_add, List.getElem?_append_left hj]
    exact hu
  | y :: l, i + 1, x, hx, j, u, hu => by
    rw [List.getElem?_cons_succ] at hx
    have := flat_at hf hx j hu
    rw [List.flatMap_cons, List.getElem?_append_right (by rw [hf, Nat.add_mul]; omega), hf, show (i + 1) * m + j - m = i * m + j by rw [Nat.add_mul]; omega]
    exact this
theorem map_at {l : List (List UInt8)} {i : Nat} {x : List UInt8} (hx : l[i]? = some x) : (l.map tx)[i * 1]? = some (tx x) := by rw [Nat.mul_one]; simp [hx]
theorem run_lenS {ts : Array TypeId} {m cnt : Nat} {cs : List Value} {e : TypeId} {W : World} (ho : o.op = .call { callee := .builtin .len, args := #[x], argTypes := ts }) (hx : a.eval x = v) (hs : Sl W v m cnt cs) (hts : ts = #[t]) (hu : P.underlying t = some (.slice e)) : (execOp a.eval o).run P w = .ok (.value (.int .i64 (cnt : Int))) w := by
  obtain ⟨p, c, rfl⟩ := hs.len
  exact run_lenSl ho hx hts hu
theorem bltE1 {i : Nat} {u : Value} (h : a.eval x = u) : (#[(i, x)].map fun ((i, x) : Nat × Operand) => (i, a.eval x)) = #[(i, u)] := by simp [h]
theorem bltE2 {i j : Nat} {u v : Value} (h : a.eval x = u) (h2 : a.eval y = v) : (#[(i, x), (j, y)].map fun ((i, x) : Nat × Operand) => (i, a.eval x)) = #[(i, u), (j, v)] := by simp [h, h2]
theorem bltE3 {i j k : Nat} {u v r : Value} (h : a.eval x = u) (h2 : a.eval y = v) (h3 : a.eval z = r) : (#[(i, x), (j, y), (k, z)].map fun ((i, x) : Nat × Operand) => (i, a.eval x)) = #[(i, u), (j, v), (k, r)] := by simp [h, h2, h3]
theorem eqv {b c : Bool} (h : b = c) {r : Result Next} (hr : r = .ok (.value (.bool b)) w) : r = .ok (.value (.bool c)) w := by rw [hr, h]
theorem OwnR.ofCall {w1 w2 : World} {M : List (Nat × (Obj → Prop))} {e : TypeId} {size m : Nat} {xs : List Value} (hM : Mem w0 M w1) (h : w2.ownsRow w1.heap.size e size v m xs) : OwnR w0 M w2 e size v m xs := by
  refine ⟨⟨h.1, ?_⟩, fun x hx => ?_⟩
  · rcases h.2 with h1 | ⟨g, cap, cur, h1, h2, h3⟩
    · exact .inl h1
    · exact .inr ⟨g, cap, cur, h1, Nat.le_trans hM.below.size h2, h3⟩
  · intro e2
    have h1 := own_base h e2
    have h2 := hM.lt hx
    omega
theorem arr_one {l : List Value} (h : (l.all fun u => u.oneCell') = true) : (l.toArray.all fun u => u.oneCell') = true := by simpa using h
/-- a new row with elements, which the call will append to. -/
theorem sqOwnN {rest : List Oper} {ops : Array Oper} {Q : Exit → Act → World → Prop} {M : List (Nat × (Obj → Prop))} {e : TypeId} {size m : Nat} {cs : List Value} (hF : FrD D a n L) (hM : Mem w0 M w) (hw : Region.wanted o (yielded ops a.tmps) = true) (hrun : (execOp a.eval o).run P w = .ok (.value (.slice (some ⟨w.heap.size, 0, none⟩) m m)) (w.alloc (.cells cs.toArray e))) (hl : cs.length = m * size) (hm : m ≤ maxLen) (hd : o.dst = some s) (hs : s < n)
    (h : ∀ v a2 w2, OwnR w0 M w2 e size v m cs → Below w.heap.size w w2 → Mem w0 M w2 → FrD D a2 n ((s, v) :: L) → wpList P ops Q rest a2 w2) : wpList P ops Q (o :: rest) a w := by
  have hb : Below w.heap.size w (w.alloc (.cells cs.toArray e)) := (Below.refl _ _).alloc (Nat.le_refl _) _
  refine sq hF hw hrun hd hs fun a2 hF2 => h _ a2 _ ⟨⟨hl, .inr ⟨w.heap.size, m, cs.toArray, rfl, hM.below.size, heap_alloc_new w _, Nat.le_refl _, hm, by simpa using hl, by simp [← hl]⟩⟩, fun x hx => ?_⟩ hb (hM.grow hb) hF2
  have := hM.lt hx
  intro e2
  simp only [Value.ownBlock, Option.some.injEq] at e2
  omega
/-- a row that is read, and no more appended to, among the blocks. -/
def isRow (e : TypeId) (size n : Nat) (xs : List Value) : Obj → Prop := fun ob => ∃ cur, ob = .cells cur e (0, 0) ∧ cur.toList.take (n * size) = xs ∧ xs.length = n * size
theorem OwnR.toMem {M : List (Nat × (Obj → Prop))} {e : TypeId} {size m : Nat} {xs : List Value} (h : OwnR w0 M w e size v m xs) (hM : Mem w0 M w) (hm : 0 < m) : ∃ g c, v = .slice (some ⟨g, 0, none⟩) m c ∧ Mem w0 ((g, isRow e size m xs) :: M) w := by
  rcases h.owns.2 with ⟨_, h2⟩ | ⟨g, cap, cur, rfl, h1, hh, h2, h3, h4, h5⟩
  · omega
  · refine ⟨g, cap, rfl, hM.below, fun x hx => ?_, List.Pairwise.cons (fun y hy e2 => ?_) hM.nd⟩
    · rcases List.mem_cons.1 hx with rfl | hx
      · exact ⟨h1, _, hh, cur, rfl, h5, h.owns.1⟩
      · exact hM.has x hx
    · have := h.far y hy
      simp only [Value.ownBlock] at this
      exact this (by rw [← e2])
theorem OwnR.ofCallMem {w1 w2 : World} {M : List (Nat × (Obj → Prop))} {e : TypeId} {size m : Nat} {xs : List Value} (hM : Mem w0 M w1) (hb : Below w1.heap.size w1 w2) (h : w2.ownsRow w1.heap.size e size v m xs) (hm : 0 < m) : ∃ g c, v = .slice (some ⟨g, 0, none⟩) m c ∧ m ≤ c ∧ w1.heap.size ≤ g ∧ Mem w0 ((g, isRow e size m xs) :: M) w2 := by
  rcases h.2 with ⟨_, h2⟩ | ⟨g, cap, cur, rfl, h1, hh, h2, h3, h4, h5⟩
  · omega
  · exact ⟨g, cap, rfl, h2, h1, hM.addS hb h1 ⟨_, hh, cur, rfl, h5, h.1⟩⟩
/-- the front of a row. -/
theorem slFront {α : Type} {f : α → List Value} {g c size : Nat} {e : TypeId} {l : List α} (hf : ∀ x, (f x).length = size) (h : ∃ ob, w.heap[g]? = some ob ∧ isRow e size l.length (l.flatMap f) ob) {j : Nat} (hj : j ≤ l.length) : Sl w (.slice (some ⟨g, 0, none⟩) j c) size (l.take j).length ((l.take j).flatMap f) := by
  obtain ⟨ob, h1, cur, rfl, h2, h3⟩ := h
  have hl : (l.take j).length = j := by rw [List.length_take]; omega
  have hfl : ∀ r : List α, (r.flatMap f).length = r.length * size := by
    intro r
    induction r with
    | nil => simp
    | cons y r ih => rw [List.flatMap_cons, List.length_append, ih, hf, List.length_cons, Nat.add_mul]; omega
  refine ⟨hfl _, .inr ⟨g, 0, c, by rw [hl], lt_of_ob h1, fun q u hq => ?_⟩⟩
  rw [Nat.zero_add, cell_of_row w g q cur e (0, 0) h1]
  have hq1 : q < (l.take j).length * size := by have := (List.getElem?_eq_some_iff.1 hq).1; rw [hfl] at this; exact this
  have hq2 : (l.take j).length * size ≤ l.length * size := Nat.mul_le_mul_right _ (by omega)
  have hq3 : (l.flatMap f)[q]? = some u := by
    rw [← List.take_append_drop j l, List.flatMap_append, List.getElem?_append_left (by rw [hfl]; exact hq1)]
    exact hq
  have e1 : cur[q]? = (cur.toList.take (l.length * size))[q]? := by rw [List.getElem?_take_of_lt (by omega)]; simp
  rw [e1, h2]; exact hq3
theorem run_toS {P : Program} {a : Act} {o : Oper} {x y : Operand} {t e : TypeId} {k : IntKind} {p : Int} {g m c j z : Nat} (ho : o.op = .slice t x none (some y) none) (hx : a.eval x = .slice (some ⟨g, 0, none⟩) m c) (hy : a.eval y = .int k p) (hp : p = (j : Int)) (hj : j ≤ c) (hu : P.underlying t = some (.slice e)) (hz : (sizeOf e).run P w = .ok z w) : (execOp a.eval o).run P w = .ok (.value (.slice (some ⟨g, 0, none⟩) j c)) w := by
  subst hp
  have he : P.elem t = e := by simp [Program.elem, hu]
  have ht : P.underlying t = some (.slice (P.elem t)) := by rw [he]; exact hu
  have hz2 : (sizeOf (P.elem t)).run P w = .ok z w := by rw [he]; exact hz
  have hr := run_slice_h (P := P) w t (some ⟨g, 0, none⟩) m c ht k (j : Int) (by omega) (by omega)
  have hs : (Instr.sliceAt t (.slice (some ⟨g, 0, none⟩) m c) none (some (.int k (j : Int))) none).run P w = .ok (.slice (some ⟨g, 0, none⟩) j c) w := by
    rw [run_sliceAt_slice w t _ _ _ _ ht, hr, hz2]
    simp [sliced, Addr.add]
  unfold execOp
  simp only [ho, hx, hy, Option.map, Sem.run_bind, hs, Result.andThen_ok, Sem.run_pure]
theorem slOfRow {g c m size : Nat} {e : TypeId} {xs : List Value} (h : ∃ ob, w.heap[g]? = some ob ∧ isRow e size m xs ob) : Sl w (.slice (some ⟨g, 0, none⟩) m c) size m xs := by
  obtain ⟨ob, h1, cur, rfl, h2, h3⟩ := h
  refine ⟨h3, .inr ⟨g, 0, c, rfl, lt_of_ob h1, fun j u hj => ?_⟩⟩
  rw [Nat.zero_add, cell_of_row w g j cur e (0, 0) h1]
  have hl : j < m * size := by have := (List.getElem?_eq_some_iff.1 hj).1; omega
  have e1 : cur[j]? = (cur.toList.take (m * size))[j]? := by rw [List.getElem?_take_of_lt hl]; simp
  rw [e1, h2]; exact hj
/-- a row in a new block, ahead of an append. -/
def krow (B : Nat) (t : TypeId) (cs : Array Value) (m : Nat) : Kd := ⟨fun v W => ∃ g, B ≤ g ∧ v = .slice (some ⟨g, 0, none⟩) m m ∧ Blk W g t cs, fun _ _ _ hb ⟨g, h0, h1, h2⟩ => ⟨g, h0, h1, h2.below hb h2.lt⟩⟩
theorem giv_row {P : Program} {KL : List Kd} {i B : Nat} {o : Oper} {W : World} {a : Act} (hB : B ≤ W.heap.size) (t : TypeId) (cs : Array Value) (m : Nat) (hrun : (execOp a.eval o).run P W = .ok (.value (.slice (some ⟨W.heap.size, 0, none⟩) m m)) (W.alloc (.cells cs t)))
    (hk : KL.getD i kany = krow B t cs m) : GivesT P (grows i W) (kT KL i) ((execOp a.eval o).run P W) := by
  rw [hrun]
  refine ⟨(Below.refl _ _).alloc (Nat.le_refl _) _, ?_⟩
  unfold kT; rw [hk]
  exact ⟨W.heap.size, hB, rfl, Blk.new _ _ _⟩
theorem ob_below {w w2 : World} {g : Nat} {S : Obj → Prop} (hb : Below w.heap.size w w2) (h : ∃ ob, w.heap[g]? = some ob ∧ S ob) : ∃ ob, w2.heap[g]? = some ob ∧ S ob := by
  obtain ⟨ob, h1, h2⟩ := h
  exact ⟨ob, (hb.block g (lt_of_ob h1)).trans h1, h2⟩
/-- 'make([]T, 0, c)'. -/
theorem sqMake {rest : List Oper} {ops : Array Oper} {Q : Exit → Act → World → Prop} {M : List (Nat × (Obj → Prop))} {e : TypeId} {size bytes c : Nat} {kl kc : IntKind} {p : Int} (E : ElT P t e size bytes) (hF : FrD D a n L) (hM : Mem w0 M w) (hgd : o.guard = none) (ho : o.op = .makeSlice t x y) (hx : a.eval x = .int kl 0) (hy : a.eval y = .int kc p) (hp : p = (c : Int)) (hb1 : bytes * c ≤ 281474976710656) (hb2 : c ≤ maxLen) (hd : o.dst = some s) (hs : s < n)
    (h : ∀ v a2 w2, OwnR w0 M w2 e size v 0 [] → Below w.heap.size w w2 → Mem w0 M w2 → FrD D a2 n ((s, v) :: L) → wpList P ops Q rest a2 w2) : wpList P ops Q (o :: rest) a w := by
  obtain ⟨i, z, hi, hz, hsz, hby, hzs⟩ := E.inf
  subst hp hby
  obtain ⟨w2, hr, h1, h2⟩ := run_make_own (P := P) w w0.heap.size t e i z size E.un hi hz hsz kl kc c hb1 hb2 hM.below.size
  have hb : Below w.heap.size w w2 := ⟨h2.os, h2.tape, h2.output, h2.size, fun b hb => h2.block b hb (by simp)⟩
  refine sq hF (wantedS hgd) (v := .slice (some ⟨w.heap.size, 0, none⟩) 0 c) (w2 := w2) ?_ hd hs fun a2 hF2 => h _ a2 w2 ⟨h1, fun x hx => ?_⟩ hb (hM.grow hb) hF2
  · unfold execOp
    simp only [ho, hx, hy, Sem.run_bind, hr, Result.andThen_ok, Sem.run_pure]
  · have := hM.lt hx
    intro e2
    simp only [Value.ownBlock, Option.some.injEq] at e2
    omega
end
end Go.Proofs.YtdjjiblijbjobaaDoor
