/- Equality of keys, digests, epochs, shares as values; rows of one element; blocks of keys. -/
import Derived.Test.YtconhhhggckcbaaDoorCln
import Derived.Test.YtconhhhggckcbaaDoorRngS
import Derived.Test.YtconhhhggckcbaaDoorEpQ
namespace Go.Proofs.YtconhhhggckcbaaDoor
open Go.RowKit
variable {D : List Deferred}

theorem eqKeyB (C E : List UInt8) (hC : C.length = 32) (hE : E.length = 32) (w : World) : (Op.equalIn 10000 23 (.agg (cells8 C)) (.agg (cells8 E))).run Tryd.prog w = .ok (C == E) w :=
  run_equalIn_bytes (P := Tryd.prog) w 9998 23 5 32 Tryd.underlying23 Tryd.underlying5 so8 C E hC hE
theorem len2L {α : Type} {l : List α} (h : l.length = 2) : ∃ a b, l = [a, b] := by
  match l, h with
  | [a, b], _ => exact ⟨a, b, rfl⟩
theorem eq2_gen {P : Program} {w : World} (d : Nat) {t ts tn : TypeId} {o2 : Nat} {A B : Array Value} {m n m2 n2 : Value} {b0 b1 : Bool} (ht : P.underlying t = some (.struct (P.fieldsOf t))) (hp : P.stoodInHeld t = false)
    (hf : (P.fieldsOf t).toList.map (fun f => (f.name != "_", f.type, f.offset)) = [(true, ts, 0), (true, tn, o2)])
    (p0 : (part ts A 0).run P w = .ok m w) (p1 : (part tn A o2).run P w = .ok n w) (r0 : (part ts B 0).run P w = .ok m2 w) (r1 : (part tn B o2).run P w = .ok n2 w)
    (q0 : (Op.equalIn d ts m m2).run P w = .ok b0 w) (q1 : (Op.equalIn d tn n n2).run P w = .ok b1 w) : (Op.equalIn (d + 1) t (.agg A) (.agg B)).run P w = .ok (b0 && b1) w := by
  rw [run_equalIn_struct w d t A B ht hp]
  generalize (P.fieldsOf t).toList = fs at hf ⊢
  obtain ⟨f0, f1, rfl⟩ := len2L (show fs.length = 2 by have := congrArg List.length hf; simpa using this)
  simp only [List.map_cons, List.map_nil, List.cons.injEq, Prod.mk.injEq, and_true, bne_iff_ne, ne_eq] at hf
  obtain ⟨⟨n0, t0, o0⟩, ⟨n1, t1, o1⟩⟩ := hf
  cases b0 <;> cases b1 <;> simp [Op.eqFields, n0, n1, t0, t1, o0, o1, p0, p1, r0, r1, q0, q1]
theorem epC_ext {e : Ep} (h : e.c.length = 32) : (epC e).extract 0 32 = cells8 e.c := by
  simp only [epC, epL, cells8, List.extract_toArray, List.extract_eq_take_drop, List.drop_zero]
  rw [List.take_left' (by simp [h])]
theorem eqStrB {P : Program} {w : World} (d : Nat) {t : TypeId} (s r : List UInt8) (h : P.underlying t = some .string) : (Op.equalIn (d + 1) t (.string ⟨s.toArray⟩) (.string ⟨r.toArray⟩)).run P w = .ok (s == r) w := by
  rw [run_equalIn_string w d t _ _ h]
  have e1 : (⟨s.toArray⟩ : ByteArray).toList = s := ba_toList s
  have e2 : (⟨r.toArray⟩ : ByteArray).toList = r := ba_toList r
  simp [e1, e2]
theorem eqEp (e f : Ep) (h : e.c.length = 32) (h2 : f.c.length = 32) (w : World) : (Op.equalIn 10000 76 (.agg (epC e)) (.agg (epC f))).run Tryd.prog w = .ok (e.c == f.c && e.wr == f.wr) w :=
  eq2_gen 9999 (by kernel_rfl) (by kernel_rfl) (by kernel_rfl) (part_agg (m := 32) (epC_ext h) (by kernel_rfl) (by kernel_rfl)) (part_one (epC_wrap (c := e.c) (wr := e.wr) h) (by kernel_rfl)) (part_agg (m := 32) (epC_ext h2) (by kernel_rfl) (by kernel_rfl)) (part_one (epC_wrap (c := f.c) (wr := f.wr) h2) (by kernel_rfl))
    (run_equalIn_bytes (P := Tryd.prog) w 9997 73 5 32 Tryd.underlying73 Tryd.underlying5 so8 e.c f.c h h2) (eqStrB 9998 e.wr f.wr Tryd.underlying9)
section
variable {a : Act} {o : Oper} {w w0 : World} {n s : Nat} {L : List (Nat × Value)} {v : Value} {ops : Array Oper} {rest : List Oper} {Q : Exit → Act → World → Prop} {M : List (Nat × (Obj → Prop))} {x y z : Operand} {g i : Nat} {t2 : TypeId} {C E : List UInt8} {b : Bool}
theorem run_eqKB (hC : C.length = 32) (hE : E.length = 32) (hb : (C == E) = b) (ho : o.op = .binOp .eql 23 x y t2) (hx : a.eval x = .agg (cells8 C)) (hy : a.eval y = .agg (cells8 E)) : (execOp a.eval o).run Tryd.prog w = .ok (.value (.bool b)) w :=
  run_bin ho hx hy (run_eqGuard_agg w _ _ _ _ _ _ (by kernel_rfl)) (by rw [run_eql_struct, eqKeyB C E hC hE, hb]; rfl)
theorem run_neKB (hC : C.length = 32) (hE : E.length = 32) (hb : (C == E) = !b) (ho : o.op = .binOp .neq 23 x y t2) (hx : a.eval x = .agg (cells8 C)) (hy : a.eval y = .agg (cells8 E)) : (execOp a.eval o).run Tryd.prog w = .ok (.value (.bool b)) w :=
  run_bin ho hx hy (run_eqGuard_agg w _ _ _ _ _ _ (by kernel_rfl)) (by rw [run_neq_struct, eqKeyB C E hC hE, hb]; simp)
theorem run_eqDB (hC : C.length = 32) (hE : E.length = 32) (hb : (C == E) = b) (ho : o.op = .binOp .eql 73 x y t2) (hx : a.eval x = .agg (cells8 C)) (hy : a.eval y = .agg (cells8 E)) : (execOp a.eval o).run Tryd.prog w = .ok (.value (.bool b)) w :=
  run_bin ho hx hy (run_eqGuard_agg w _ _ _ _ _ _ (by kernel_rfl)) (by rw [run_eql_struct, eqDg C E hC hE, hb]; rfl)
theorem run_neDB (hC : C.length = 32) (hE : E.length = 32) (hb : (C == E) = !b) (ho : o.op = .binOp .neq 73 x y t2) (hx : a.eval x = .agg (cells8 C)) (hy : a.eval y = .agg (cells8 E)) : (execOp a.eval o).run Tryd.prog w = .ok (.value (.bool b)) w :=
  run_bin ho hx hy (run_eqGuard_agg w _ _ _ _ _ _ (by kernel_rfl)) (by rw [run_neq_struct, eqDg C E hC hE, hb]; simp)
theorem run_neEp {e f : Ep} (h : e.c.length = 32) (h2 : f.c.length = 32) (hb : decide (e = f) = !b) (ho : o.op = .binOp .neq 76 x y t2) (hx : a.eval x = .agg (epC e)) (hy : a.eval y = .agg (epC f)) : (execOp a.eval o).run Tryd.prog w = .ok (.value (.bool b)) w := by
  have h3 : (e.c == f.c && e.wr == f.wr) = decide (e = f) := by
    by_cases he : e = f
    · rw [decide_eq_true he, he, beq_self_eq_true, beq_self_eq_true]; rfl
    · rw [decide_eq_false he]
      by_cases h1 : e.c = f.c
      · by_cases h4 : e.wr = f.wr
        · exact absurd (by cases e; cases f; simp_all) he
        · rw [beq_eq_false_iff_ne.2 h4, Bool.and_false]
      · rw [beq_eq_false_iff_ne.2 h1, Bool.false_and]
  exact run_bin ho hx hy (run_eqGuard_agg w _ _ _ _ _ _ (by kernel_rfl)) (by rw [run_neq_struct, eqEp e f h h2, h3, hb]; simp)
/-- rows of one element. -/
theorem run_keys1 {d : List UInt8} (h : d.length = 32) (ho : o.op = .buildSlice 28 1 #[(0, x)]) (hx : a.eval x = .agg (cells8 d)) : (execOp a.eval o).run Tryd.prog w = .ok (.value (.slice (some ⟨w.heap.size, 0, none⟩) 1 1)) (w.alloc (.cells (List.toArray ([d].flatMap dgC)) 23)) := by
  have hr : (Instr.buildSlice 28 1 #[(0, .agg (cells8 d))]).run Tryd.prog w = .ok (.slice (some ⟨w.heap.size, 0, none⟩) 1 1) (w.alloc (.cells (cells8 d) 23)) := by
    obtain ⟨a0, a1, a2, a3, a4, a5, a6, a7, a8, a9, b0, b1, b2, b3, b4, b5, b6, b7, b8, b9, c0, c1, c2, c3, c4, c5, c6, c7, c8, c9, d0, d1, rfl⟩ := list32 h
    kernel_rfl
  have he : List.toArray ([d].flatMap dgC) = cells8 d := by rw [List.flatMap_singleton, dgC_of h]; rfl
  rw [he]
  unfold execOp
  simp only [ho, List.map_toArray, List.map_cons, List.map_nil, hx, Sem.run_bind, hr, Result.andThen_ok, Sem.run_pure]
theorem run_eps1 {e : Ep} (h : e.c.length = 32) (ho : o.op = .buildSlice 25 1 #[(0, x)]) (hx : a.eval x = .agg (epC e)) : (execOp a.eval o).run Tryd.prog w = .ok (.value (.slice (some ⟨w.heap.size, 0, none⟩) 1 1)) (w.alloc (.cells (List.toArray ([e].flatMap epF)) 76)) := by
  have hr : (Instr.buildSlice 25 1 #[(0, .agg (epC e))]).run Tryd.prog w = .ok (.slice (some ⟨w.heap.size, 0, none⟩) 1 1) (w.alloc (.cells (epC e) 76)) := by
    obtain ⟨c, wr⟩ := e
    obtain ⟨a0, a1, a2, a3, a4, a5, a6, a7, a8, a9, b0, b1, b2, b3, b4, b5, b6, b7, b8, b9, c0, c1, c2, c3, c4, c5, c6, c7, c8, c9, d0, d1, rfl⟩ := list32 h
    kernel_rfl
  have he : List.toArray ([e].flatMap epF) = epC e := by rw [List.flatMap_singleton, epF_of h]; rfl
  rw [he]
  unfold execOp
  simp only [ho, List.map_toArray, List.map_cons, List.map_nil, hx, Sem.run_bind, hr, Result.andThen_ok, Sem.run_pure]
/-- a block of keys. -/
def kysA (l : List (List UInt8)) : Array Value := (l.flatMap dgC).toArray
theorem flat_len (l : List (List UInt8)) : (l.flatMap dgC).length = l.length * 32 := by
  induction l with
  | nil => rfl
  | cons x l ih => rw [List.flatMap_cons, List.length_append, ih, dgC_len, List.length_cons]; omega
theorem kysA_size (l : List (List UInt8)) : (kysA l).size = l.length * 32 := by rw [kysA, List.size_toArray, flat_len]
theorem flat_rep (m : Nat) : (List.replicate m (List.replicate 32 (0 : UInt8))).flatMap dgC = List.replicate (m * 32) (cb 0) := by
  induction m with
  | zero => simp
  | succ m ih =>
    rw [List.replicate_succ, List.flatMap_cons, ih, show (m + 1) * 32 = 32 + m * 32 by omega, ← List.replicate_append_replicate]
    congr 1
set_option maxRecDepth 100000 in
theorem madeK (m : Nat) : ∃ i z, Tryd.prog.info? 23 = some i ∧ i.zero = some z ∧ i.size = 32 ∧ i.bytes = 32 ∧ madeCells z.cells (m * 32) = kysA (List.replicate m (List.replicate 32 0)) := by
  obtain ⟨i, z, h1, h2, h3, h4, h5⟩ : ∃ i z, Tryd.prog.info? 23 = some i ∧ i.zero = some z ∧ i.size = 32 ∧ i.bytes = 32 ∧ z.cells = (List.replicate 32 (cb 0)).toArray := ⟨_, _, rfl, rfl, rfl, rfl, by kernel_rfl⟩
  refine ⟨i, z, h1, h2, h3, h4, ?_⟩
  rw [h5, kysA, flat_rep]
  apply Array.ext'
  rw [madeCells, Array.toList_map, Array.toList_range]
  apply List.ext_getElem?
  intro q
  by_cases hq : q < m * 32
  · rw [List.getElem?_map, List.getElem?_range hq, List.getElem?_replicate, if_pos hq]
    have h7 : ∀ N j : Nat, j < N → ((List.replicate N (cb 0)).toArray)[j]! = cb 0 := fun N j hj => by simp [hj]
    rw [Option.map_some, h7 32 _ (by rw [List.size_toArray, List.length_replicate]; exact Nat.mod_lt _ (by decide))]
  · rw [List.getElem?_eq_none (by simp; omega), List.getElem?_eq_none (by simp; omega)]
theorem sqMakeK {k k2 : IntKind} {p p2 : Int} {m : Nat} (hF : FrD D a n L) (hM : Mem w0 M w) (hgd : o.guard = none) (ho : o.op = .makeSlice 28 x y) (hx : a.eval x = .int k p) (hy : a.eval y = .int k2 p2) (hp : p = (m : Int)) (hp2 : p2 = (m : Int)) (hm : m < 2 ^ 36) (hd : o.dst = some s) (hs : s < n)
    (h : ∀ g a2 w2, w.heap.size ≤ g → Below w.heap.size w w2 → FrD D a2 n ((s, .slice (some ⟨g, 0, none⟩) m m) :: L) → Mem w0 ((g, isB 23 (kysA (List.replicate m (List.replicate 32 0)))) :: M) w2 → wpList Tryd.prog ops Q rest a2 w2) : wpList Tryd.prog ops Q (o :: rest) a w := by
  subst hp hp2
  obtain ⟨i, z, hi, hz, hsz, hby, hcs⟩ := madeK m
  have hr := run_make (P := Tryd.prog) w 28 23 i z elKey.un hi hz k k2 (m : Int) (m : Int) (by omega) (by omega) (by rw [hby]; omega) (by omega)
  rw [show (m : Int).toNat * i.size = m * 32 by rw [hsz]; rfl, hcs] at hr
  refine sqRow (cs := kysA (List.replicate m (List.replicate 32 0))) (t := 23) hF hM (wantedS hgd) ?_ hd hs h
  unfold execOp
  simp only [ho, hx, hy, Sem.run_bind, hr, Result.andThen_ok, Sem.run_pure]
  rfl
theorem run_idxKs {c m : Nat} {k : IntKind} {p : Int} (ho : o.op = .indexAddr 28 x y) (hx : a.eval x = .slice (some ⟨g, 0, none⟩) m c) (hy : a.eval y = .int k p) (hp : p = (i : Int)) (hi : i < m) : (execOp a.eval o).run Tryd.prog w = .ok (.value (.pointer (some ⟨g, i * 32, none⟩))) w := by
  subst hp
  have el : Tryd.prog.elem 28 = 23 := by simp [Program.elem, Tryd.underlying28]
  have hr := run_indexAt_slice (P := Tryd.prog) w 28 ⟨g, 0, none⟩ m c k (i : Int) (by rw [el]; exact elKey.un)
  have hz : (sizeOf (Tryd.prog.elem 28)).run Tryd.prog w = .ok 32 w := by rw [el]; kernel_rfl
  unfold execOp
  simp only [ho, hx, hy]
  rw [Sem.run_bind, hr, hz, if_pos (by omega)]
  simp [Addr.add]
  intro h; exact h.symm
theorem flat_set {l : List (List UInt8)} {d : List UInt8} : ∀ {i : Nat}, i < l.length → (l.flatMap dgC).take (i * 32) ++ dgC d ++ (l.flatMap dgC).drop (i * 32 + 32) = (l.set i d).flatMap dgC := by
  induction l with
  | nil => intro i h; exact absurd h (by simp)
  | cons x l ih =>
    intro i h
    cases i with
    | zero =>
      rw [List.set_cons_zero, List.flatMap_cons, List.flatMap_cons, Nat.zero_mul, List.take_zero, List.nil_append, Nat.zero_add, List.drop_left' (dgC_len x)]
    | succ i =>
      have h2 := ih (i := i) (by simpa using h)
      rw [List.set_cons_succ, List.flatMap_cons, List.flatMap_cons, ← h2, show (i + 1) * 32 = (dgC x).length + i * 32 by rw [dgC_len]; omega, List.take_length_add_append, show (dgC x).length + i * 32 + 32 = (dgC x).length + (i * 32 + 32) by omega, List.drop_length_add_append]
      simp only [List.append_assoc]
theorem sqSetK {j : Nat} {l : List (List UInt8)} {d : List UInt8} (h32 : d.length = 32) (hF : FrD D a n L) (hM : Mem w0 M w) (hgd : o.guard = none) (ho : o.op = .store 23 x y) (hd : o.dst = none) (hx : a.eval x = .pointer (some ⟨g, i * 32, none⟩)) (hy : a.eval y = .agg (cells8 d))
    (e : M[j]? = some (g, isB 23 (kysA l))) (hi : i < l.length) (h : ∀ a2 w2, w.grownBy w2 (some g) → FrD D a2 n L → Mem w0 (M.set j (g, isB 23 (kysA (l.set i d)))) w2 → wpList Tryd.prog ops Q rest a2 w2) : wpList Tryd.prog ops Q (o :: rest) a w := by
  have hB := hM.at j e
  have hst := run_storeCells_at Tryd.prog g (i * 32) 23 (dgC d) 0 (kysA l) w hB (by rw [kysA_size, dgC_len]; omega) (dgC_one d)
  have hcs : ((kysA l).toList.take (i * 32 + 0) ++ dgC d ++ (kysA l).toList.drop (i * 32 + 0 + (dgC d).length)).toArray = kysA (l.set i d) := by
    rw [dgC_len, Nat.add_zero, kysA, kysA, ← flat_set hi]
  rw [hcs] at hst
  have hg := grown_setRow w g (kysA (l.set i d))
  have he : (cells8 d).toList = dgC d := by rw [dgC_of h32]; rfl
  have hq : (Tryd.prog.info? 23).map (·.size) = some 32 := by kernel_rfl
  refine sqN hF (wantedS hgd) (w2 := w.setRow g (kysA (l.set i d))) ?_ hd fun a2 hF2 => h a2 _ hg hF2 (hM.upd j e hg ⟨_, hB.row _, rfl⟩)
  unfold execOp
  simp only [ho, hx, hy]
  cases hp : Tryd.prog.info? 23 with
  | none => simp [hp] at hq
  | some ti =>
    have hsz : ti.size = 32 := by simpa [hp] using hq
    have hcz : (cells8 d).size = 32 := by rw [← Array.length_toList, he, dgC_len]
    simp [Instr.storeAt, Instr.sureAddr, storeVar, sizeOf, typeInfo, hp, Value.cells, hsz, hcz, he, hst]
end
end Go.Proofs.YtconhhhggckcbaaDoor
