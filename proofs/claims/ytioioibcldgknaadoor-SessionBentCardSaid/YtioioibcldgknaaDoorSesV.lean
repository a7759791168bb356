/- Ends of a channel as values: their cells, fields, equality. -/
import Derived.Stop.BytesEq
import Derived.Test.YtioioibcldgknaaDoorSesP
import Derived.Test.YtioioibcldgknaaDoorSesW
import Derived.Test.YtioioibcldgknaaDoorRange
import Derived.Test.YtioioibcldgknaaDoorRef04B
namespace Go.Proofs.YtioioibcldgknaaDoor
open Go.RowKit
variable {D : List Deferred}

def chA (c : Ch) : Array Value := (.string ⟨c.m.toArray⟩ :: .int .u64 (c.n : Int) :: c.k.map cb).toArray
theorem chA_size {c : Ch} (h : c.k.length = 32) : (chA c).size = 34 := by simp [chA, h]
theorem chA_sizeM {m : List UInt8} {n : Nat} {k : List UInt8} (h : k.length = 32) : (chA (Ch.mk m n k)).size = 34 := by simp [chA, h]
theorem chA_one (c : Ch) : ((chA c).all fun u => u.oneCell') = true := by
  have h := cells8_one c.k
  simp only [cells8, List.all_toArray] at h
  simp only [chA, List.all_toArray, List.all_cons, Bool.and_eq_true]
  exact ⟨rfl, rfl, h⟩
theorem szCh : (Tryd.prog.info? 26).map (·.size) = some 34 := by kernel_rfl
theorem list32 {k : List UInt8} (h : k.length = 32) : ∃ a0 a1 a2 a3 a4 a5 a6 a7 a8 a9 b0 b1 b2 b3 b4 b5 b6 b7 b8 b9 c0 c1 c2 c3 c4 c5 c6 c7 c8 c9 d0 d1, k = [a0, a1, a2, a3, a4, a5, a6, a7, a8, a9, b0, b1, b2, b3, b4, b5, b6, b7, b8, b9, c0, c1, c2, c3, c4, c5, c6, c7, c8, c9, d0, d1] := by
  match k, h with
  | [a0, a1, a2, a3, a4, a5, a6, a7, a8, a9, b0, b1, b2, b3, b4, b5, b6, b7, b8, b9, c0, c1, c2, c3, c4, c5, c6, c7, c8, c9, d0, d1], _ => exact ⟨a0, a1, a2, a3, a4, a5, a6, a7, a8, a9, b0, b1, b2, b3, b4, b5, b6, b7, b8, b9, c0, c1, c2, c3, c4, c5, c6, c7, c8, c9, d0, d1, rfl⟩
theorem built_ch (m : List UInt8) (n : Nat) (k : List UInt8) (h : k.length = 32) : Tryd.prog.built 26 [(0, .string ⟨m.toArray⟩), (1, .int .u64 (n : Int)), (2, .agg (cells8 k))] = some (chA ⟨m, n, k⟩) := by
  obtain ⟨a0, a1, a2, a3, a4, a5, a6, a7, a8, a9, b0, b1, b2, b3, b4, b5, b6, b7, b8, b9, c0, c1, c2, c3, c4, c5, c6, c7, c8, c9, d0, d1, rfl⟩ := list32 h
  kernel_rfl
theorem built_ch1 (m : List UInt8) : Tryd.prog.built 26 [(0, .string ⟨m.toArray⟩)] = some (chA ⟨m, 0, List.replicate 32 0⟩) := by kernel_rfl
theorem built_ch0 : Tryd.prog.built 26 [] = some (chA noCh) := by kernel_rfl
theorem len3 {α : Type} {l : List α} (h : l.length = 3) : ∃ a b c, l = [a, b, c] := by
  match l, h with
  | [a, b, c], _ => exact ⟨a, b, c, rfl⟩
theorem eqCh_gen {P : Program} {w : World} (d : Nat) {t ts tn tk : TypeId} {A : Array Value} {m n k : Value} (ht : P.underlying t = some (.struct (P.fieldsOf t))) (hp : P.stoodInHeld t = false)
    (hf : (P.fieldsOf t).toList.map (fun f => (f.name != "_", f.type, f.offset)) = [(true, ts, 0), (true, tn, 1), (true, tk, 2)])
    (p0 : (part ts A 0).run P w = .ok m w) (p1 : (part tn A 1).run P w = .ok n w) (p2 : (part tk A 2).run P w = .ok k w)
    (q0 : (Op.equalIn d ts m m).run P w = .ok true w) (q1 : (Op.equalIn d tn n n).run P w = .ok true w) (q2 : (Op.equalIn d tk k k).run P w = .ok true w) : (Op.equalIn (d + 1) t (.agg A) (.agg A)).run P w = .ok true w := by
  rw [run_equalIn_struct w d t A A ht hp]
  generalize (P.fieldsOf t).toList = fs at hf ⊢
  obtain ⟨f0, f1, f2, rfl⟩ := len3 (show fs.length = 3 by have := congrArg List.length hf; simpa using this)
  simp only [List.map_cons, List.map_nil, List.cons.injEq, Prod.mk.injEq, and_true, bne_iff_ne, ne_eq] at hf
  obtain ⟨⟨n0, t0, o0⟩, ⟨n1, t1, o1⟩, ⟨n2, t2, o2⟩⟩ := hf
  simp [Op.eqFields, n0, n1, n2, t0, t1, t2, o0, o1, o2, p0, p1, p2, q0, q1, q2]
theorem part_one {P : Program} {w : World} {t : TypeId} {A : Array Value} {i : Nat} {v : Value} (h : A[i]? = some v) (ha : (isAgg t).run P w = .ok false w) : (part t A i).run P w = .ok v w := by simp [part, h, ha]
theorem part_agg {P : Program} {w : World} {t : TypeId} {A B : Array Value} {i m : Nat} (h : A.extract i (i + m) = B) (ha : (isAgg t).run P w = .ok true w) (hz : (sizeOf t).run P w = .ok m w) : (part t A i).run P w = .ok (.agg B) w := by simp [part, h, ha, hz]
theorem eq_str {P : Program} {w : World} (d : Nat) {t : TypeId} (s : ByteArray) (h : P.underlying t = some .string) : (Op.equalIn (d + 1) t (.string s) (.string s)).run P w = .ok true w := by rw [run_equalIn_string w d t s s h, beq_self_eq_true]
theorem eq_int {P : Program} {w : World} (d : Nat) {t : TypeId} {k : IntKind} (s : Int) (h : P.underlying t = some (.int k)) : (Op.equalIn (d + 1) t (.int k s) (.int k s)).run P w = .ok true w := by rw [run_equalIn_int w d t k k s s h, beq_self_eq_true]
theorem eq_by {P : Program} {w : World} (d : Nat) {t e : TypeId} {n : Nat} (l : List UInt8) (ht : P.underlying t = some (.array n e)) (he : P.underlying e = some (.int .u8)) (hsz : ∀ w, (sizeOf e).run P w = .ok 1 w) (hl : l.length = n) : (Op.equalIn (d + 2) t (.agg (cells8 l)) (.agg (cells8 l))).run P w = .ok true w := by
  have h := run_equalIn_bytes (P := P) w d t e n ht he hsz l l hl hl
  rw [beq_self_eq_true] at h
  exact h
theorem eqCh (c : Ch) (h : c.k.length = 32) (w : World) : (Op.equalIn 10000 26 (.agg (chA c)) (.agg (chA c))).run Tryd.prog w = .ok true w := by
  have hx : (chA c).extract 2 34 = cells8 c.k := by
    simp only [chA, cells8, List.extract_toArray, List.extract_eq_take_drop, List.drop_succ_cons, List.drop_zero]
    rw [List.take_of_length_le (by simp [h])]
  exact eqCh_gen 9999 (by kernel_rfl) (by kernel_rfl) (by kernel_rfl) (part_one (v := .string ⟨c.m.toArray⟩) rfl (by kernel_rfl)) (part_one (v := .int .u64 (c.n : Int)) rfl (by kernel_rfl)) (part_agg (m := 32) hx (by kernel_rfl) (by kernel_rfl))
    (eq_str 9998 _ Tryd.underlying9) (eq_int 9998 _ Tryd.underlying22) (eq_by 9997 c.k Tryd.underlying24 Tryd.underlying5 so8 h)
section
variable {a : Act} {o : Oper} {w w0 : World} {n s : Nat} {L : List (Nat × Value)} {v : Value} {x y z : Operand} {g : Nat} {t2 : TypeId} {c : Ch}
theorem run_eqCh (h : c.k.length = 32) (ho : o.op = .binOp .eql 26 x y t2) (hx : a.eval x = .agg (chA c)) (hy : a.eval y = .agg (chA c)) : (execOp a.eval o).run Tryd.prog w = .ok (.value (.bool true)) w :=
  run_bin ho hx hy (run_eqGuard_agg w _ _ _ _ _ _ (by kernel_rfl)) (by rw [run_eql_struct, eqCh c h]; rfl)
theorem run_neCh (h : c.k.length = 32) (ho : o.op = .binOp .neq 26 x y t2) (hx : a.eval x = .agg (chA c)) (hy : a.eval y = .agg (chA c)) : (execOp a.eval o).run Tryd.prog w = .ok (.value (.bool false)) w :=
  run_bin ho hx hy (run_eqGuard_agg w _ _ _ _ _ _ (by kernel_rfl)) (by rw [run_neq_struct, eqCh c h]; rfl)
theorem eqKey (C : List UInt8) (hC : C.length = 32) (W : World) : (Op.equalIn 10000 24 (.agg (cells8 C)) (.agg (cells8 C))).run Tryd.prog W = .ok true W := by
  have h := run_equalIn_bytes (P := Tryd.prog) W 9998 24 5 32 Tryd.underlying24 Tryd.underlying5 so8 C C hC hC
  rw [beq_self_eq_true] at h
  exact h
theorem run_neKey {C : List UInt8} (h : C.length = 32) (ho : o.op = .binOp .neq 24 x y t2) (hx : a.eval x = .agg (cells8 C)) (hy : a.eval y = .agg (cells8 C)) : (execOp a.eval o).run Tryd.prog w = .ok (.value (.bool false)) w :=
  run_bin ho hx hy (run_eqGuard_agg w _ _ _ _ _ _ (by kernel_rfl)) (by rw [run_neq_struct, eqKey C h]; rfl)
/-- the key of an end that lies in memory. -/
theorem run_ldK {t : TypeId} (ho : o.op = .load 24 x) (hx : a.eval x = .pointer (some ⟨g, 2, none⟩)) (hB : Blk w g t (chA c)) (h : c.k.length = 32) : (execOp a.eval o).run Tryd.prog w = .ok (.value (.agg (cells8 c.k))) w := by
  refine run_ldS (cs := c.k.map cb) ho hx (by kernel_rfl) (by rw [List.length_map, h]; kernel_rfl) fun j u hj => ?_
  rw [hB.cell]
  simp only [chA, List.getElem?_toArray]
  rw [show 2 + j = j + 1 + 1 by omega, List.getElem?_cons_succ, List.getElem?_cons_succ]
  exact hj
end
theorem sqSetN {a : Act} {o : Oper} {w w0 : World} {n : Nat} {L : List (Nat × Value)} {ops : Array Oper} {rest : List Oper} {Q : Exit → Act → World → Prop} {M : List (Nat × (Obj → Prop))} {x y : Operand} {g j u : Nat} {c c2 : Ch} {t : TypeId} (hF : FrD D a n L) (hM : Mem w0 M w) (hgd : o.guard = none) (ho : o.op = .store 22 x y) (hd : o.dst = none) (hx : a.eval x = .pointer (some ⟨g, 1, none⟩)) (hy : a.eval y = .int .u64 (u : Int))
    (e : M[j]? = some (g, isB t (chA c))) (hc2 : c2 = ⟨c.m, u, c.k⟩) (h : ∀ a2 w2, w.grownBy w2 (some g) → FrD D a2 n L → Mem w0 (M.set j (g, isB t (chA c2))) w2 → wpList Tryd.prog ops Q rest a2 w2) : wpList Tryd.prog ops Q (o :: rest) a w := by
  have hB := hM.at j e
  have hc : w.cell? ⟨g, 1, none⟩ = some (.int .u64 (c.n : Int)) := by rw [hB.cell]; rfl
  have hf := hB.frozen 1
  have hg : w.grownBy (w.setCell ⟨g, 1, none⟩ (.int .u64 (u : Int))) (some g) := grown_setCell w g 1 _
  subst hc2
  refine sqN hF (wantedS hgd) (w2 := w.setCell ⟨g, 1, none⟩ (.int .u64 (u : Int))) ?_ hd fun a2 hF2 => h a2 _ hg hF2 (hM.upd j e hg ⟨_, ?_, rfl⟩)
  · unfold execOp
    simp only [ho, hx, hy]
    simp [go_sem, hc, hf]
  · unfold Blk at hB
    simp [World.setCell, Array.getElem?_modify, hB, chA]
theorem unwantedU {a : Act} {n : Nat} {L : List (Nat × Value)} {o : Oper} {ops : Array Oper} {j sj : Nat} {want : Bool} {oj : Oper} (hF : FrD D a n L) (hg : o.guard = some (j, want)) (hj : ops[j]? = some oj) (hs : oj.dst = some sj) (he : lk L sj = some undef) : Region.wanted o (yielded ops a.tmps) = false := by
  simp [Region.wanted, hg, yielded, hj, hs, hF.at sj he, undef]
theorem keyed1 (k x : List UInt8) (v : Value) (w : World) (hk : k.length = 32) (hG : Glob w) (hs : Strs w v [x]) (hx : x.length < 2 ^ 45) :
    Calls Tryd.prog 28 #[.agg (cells8 k), v] w fun e w' => e = .returned (.agg (cells8 (keyedS k x))) ∧ Below w.heap.size w w' := by
  have h := keyed_any k [x] v w hk hG hs (by simp; omega) (by simp)
  rwa [show [x].flatten = x by simp] at h
end Go.Proofs.YtioioibcldgknaaDoor
