/- Laws and walks that many claims share: MapW, LzW, Lz1, Lz0. -/
import Derived.Maps.OwnSet
import Derived.DeepKeys4
import Derived.WideKeyPair
import Derived.Test.YtdjjiblijbjobaaDoorOpsB
import Derived.Test.YtdjjiblijbjobaaDoorLzPB
/- Maps of four bytes to places that a call makes: asked and filled. -/
namespace Go.Proofs.YtdjjiblijbjobaaDoor
open Go.RowKit Go.Maps

theorem arr4 : WideMaps.ArrKey Tryd.prog 136 5 4 := ⟨Tryd.underlying136, by kernel_rfl, by kernel_rfl, by kernel_rfl⟩
theorem keyed4 : Keyed Tryd.prog 136 := Keyed.of_law (deep_law_laid (by kernel_rfl) (m := 2) (by omega) (of_decide_eq_true (by kernel_rfl)) (by kernel_rfl) (by rw [Tryd.underlying136]))
theorem kb8 (b : UInt8) : (Lit.int .u8 (b.toNat : Int)).keyBytes = [b] := by
  have h : b.toNat < 256 := b.toNat_lt
  have e : (((b.toNat : Int)) % 2 ^ 8).toNat % 256 = b.toNat := by omega
  show [UInt8.ofNat (((b.toNat : Int) % 2 ^ 8).toNat % 256)] = [b]
  rw [e]
  simp
theorem lw8 (b : UInt8) : (Lit.int .u8 (b.toNat : Int)).wf = true := by
  have h : b.toNat < 256 := b.toNat_lt
  show (decide ((0 : Int) ≤ b.toNat) && decide ((b.toNat : Int) ≤ 255)) = true
  simp
  omega
theorem key4 (l : List UInt8) (hl : l.length = 4) : keyOf Tryd.prog 136 (.agg (cells8 l)) = some (.string l) := by
  match l, hl with
  | [a, b, c, d], _ =>
    have hkt : Tryd.prog.keyType 136 = true := by kernel_rfl
    have hsz : ∃ m, Tryd.prog.types.size = m + 1 := ⟨Tryd.prog.types.size - 1, by
      have : 0 < Tryd.prog.types.size := of_decide_eq_true (by kernel_rfl)
      omega⟩
    obtain ⟨m, hm⟩ := hsz
    show keyOf Tryd.prog 136 (.agg #[cb a, cb b, cb c, cb d]) = _
    unfold keyOf
    simp only [arr4.hu]
    rw [if_pos (by simp [hkt, Value.formed, arr4.hu, arr4.size]), hm]
    unfold Program.keyLits
    simp only [arr4.hu, Value.cells]
    rw [if_pos (by rw [arr4.size]; rfl), show List.range 4 = [0, 1, 2, 3] from rfl, List.mapM_cons, List.mapM_cons, List.mapM_cons, List.mapM_cons, List.mapM_nil]
    simp [arr4.one, Program.keyLits, Tryd.underlying5, cb, lw8, keyBytes, kb8]

/-- a map that says of four bytes at which place they were, at most n entries. -/
def isMap4 (f : List UInt8 → Option Nat) (n : Nat) : Obj → Prop := fun ob => ∃ (es : Array MapEntry) (clock : Nat) (D : DataW Unit), ob = .map es clock ∧ WideElems.Fit Tryd.prog 136 (plainElem (H := Unit) Tryd.prog 3) es clock ∧ es.size ≤ n ∧
  D = .map ((es.toList.map (WideElems.rg Tryd.prog 136 (plainElem Tryd.prog 3))).foldr DataW.insert []) ∧ ∀ s, Maps.has D (.string s) = (f s).isSome ∧ D.atKey (.string s) (.lit (.int .i64 0)) = .lit (.int .i64 (((f s).getD 0 : Nat) : Int))
theorem isMap4_owns {w : World} {g n : Nat} {f : List UInt8 → Option Nat} (h : ∃ ob, w.heap[g]? = some ob ∧ isMap4 f n ob) : ∃ D : DataW Unit, w.ownsMap Tryd.prog 136 (plainElem Tryd.prog 3) g n D ∧ ∀ s, Maps.has D (.string s) = (f s).isSome ∧ D.atKey (.string s) (.lit (.int .i64 0)) = .lit (.int .i64 (((f s).getD 0 : Nat) : Int)) := by
  obtain ⟨ob, h1, es, clock, D, rfl, h2, h3, h4, h5⟩ := h
  exact ⟨D, ⟨es, clock, h1, h2, h3, h4⟩, h5⟩
theorem isMap4_of {w : World} {g n : Nat} {f : List UInt8 → Option Nat} {D : DataW Unit} (h : w.ownsMap Tryd.prog 136 (plainElem Tryd.prog 3) g n D) (hs : ∀ s, Maps.has D (.string s) = (f s).isSome ∧ D.atKey (.string s) (.lit (.int .i64 0)) = .lit (.int .i64 (((f s).getD 0 : Nat) : Int))) : ∃ ob, w.heap[g]? = some ob ∧ isMap4 f n ob := by
  obtain ⟨es, clock, h1, h2, h3, h4⟩ := h
  exact ⟨_, h1, es, clock, D, rfl, h2, h3, h4, hs⟩
theorem isKeyLit4 (s : List UInt8) (hs : s.length = 4) : WideAt.IsKeyLit (.string s) := keyed4.key (key4 s hs)
section
variable {D : List Deferred} {a : Act} {o : Oper} {w w0 : World} {n s : Nat} {L : List (Nat × Value)} {v : Value} {ops : Array Oper} {rest : List Oper} {Q : Exit → Act → World → Prop} {M : List (Nat × (Obj → Prop))} {x y z : Operand} {g m : Nat} {f : List UInt8 → Option Nat}
set_option maxRecDepth 100000 in
theorem run_inMap4 {l : List UInt8} (ho : o.op = .lookup 106 x y true) (hx : a.eval x = .map (some g)) (hy : a.eval y = .agg (cells8 l)) (h : ∃ ob, w.heap[g]? = some ob ∧ isMap4 f m ob) (hl : l.length = 4) : (execOp a.eval o).run Tryd.prog w = .ok (.value (.tuple #[.int .i64 (((f l).getD 0 : Nat) : Int), .bool (f l).isSome])) w := by
  obtain ⟨D, h1, h2⟩ := isMap4_owns h
  have hz : (zeroValue 3).run Tryd.prog w = .ok (.int .i64 0) w := by kernel_rfl
  obtain ⟨u, ps, hr, hu⟩ := h1.look_ok keyed4 Tryd.underlying106 hz (plainElem_int Tryd.underlying3 (by decide)) (key4 l hl)
  obtain ⟨c, rfl, hc, _⟩ := plainElem_int_inv Tryd.underlying3 hu
  simp only [Prod.mk.injEq] at hc
  have h5 : c = (((f l).getD 0 : Nat) : Int) := by
    have := (h2 l).2
    rw [hc.1] at this
    injection this with h3
    injection h3
  subst h5
  rw [(h2 l).1] at hr
  unfold execOp
  simp only [ho, hx, hy, Sem.run_bind, hr, Result.andThen_ok, Sem.run_pure]
def putF (f : List UInt8 → Option Nat) (l : List UInt8) (i : Nat) : List UInt8 → Option Nat := fun s => if s = l then some i else f s
set_option maxRecDepth 100000 in
theorem sqMap4Put {l : List UInt8} {i k : Nat} (hF : FrD D a n L) (hM : Mem w0 M w) (hgd : o.guard = none) (ho : o.op = .mapUpdate 106 x y z) (hd : o.dst = none) (hx : a.eval x = .map (some g)) (hy : a.eval y = .agg (cells8 l)) (hz : a.eval z = .int .i64 (k : Int)) (e : M[i]? = some (g, isMap4 f m)) (hl : l.length = 4) (hk : k ≤ maxLen) (hn : m < maxLen)
    (h : ∀ a2 w2, w.grownBy w2 (some g) → FrD D a2 n L → Mem w0 (M.set i (g, isMap4 (putF f l k) (m + 1))) w2 → wpList Tryd.prog ops Q rest a2 w2) : wpList Tryd.prog ops Q (o :: rest) a w := by
  obtain ⟨D, h1, h2⟩ := isMap4_owns (hM.ob i e)
  have hIs : IsMap D := h1.isMap
  have hwf : (Lit.int .i64 (k : Int)).wf = true := by
    unfold maxLen at hk
    show (decide ((-9223372036854775808 : Int) ≤ k) && decide ((k : Int) ≤ 9223372036854775807)) = true
    simp
    omega
  obtain ⟨w2, hr, h3, h4⟩ := h1.update keyed4 Tryd.underlying106 hn (key4 l hl) (plainElem_int Tryd.underlying3 hwf)
  refine sqN hF (wantedS hgd) (w2 := w2) ?_ hd fun a2 hF2 => h a2 w2 h4 hF2 (hM.upd i e h4 (isMap4_of (D := D.put (.string l) (.lit (.int .i64 (k : Int)))) h3 fun s => ?_))
  · unfold execOp
    simp only [ho, hx, hy, hz, Sem.run_bind, hr, Result.andThen_ok, Sem.run_pure]
  · unfold putF
    by_cases hs : s = l
    · subst hs
      rw [if_pos rfl]
      refine ⟨?_, ?_⟩
      · rw [has_put_same hIs (isKeyLit4 s hl)]; rfl
      · rw [atKey_put_same hIs (isKeyLit4 s hl)]; rfl
    · rw [if_neg hs]
      refine ⟨?_, ?_⟩
      · rw [has_put_other (fun e => hs (by injection e)), (h2 s).1]
      · rw [atKey_put_other (fun e => hs (by injection e))]
        exact (h2 s).2
theorem sqMakeMap4 {r : Option Operand} (hF : FrD D a n L) (hM : Mem w0 M w) (hgd : o.guard = none) (ho : o.op = .makeMap 106 r) (hr : ∀ q, r = some q → ∃ k p, a.eval q = .int k p) (hd : o.dst = some s) (hs : s < n)
    (h : ∀ g a2 w2, w.heap.size ≤ g → Below w.heap.size w w2 → FrD D a2 n ((s, .map (some g)) :: L) → Mem w0 ((g, isMap4 (fun _ => none) 0) :: M) w2 → wpList Tryd.prog ops Q rest a2 w2) : wpList Tryd.prog ops Q (o :: rest) a w := by
  have hb : Below w.heap.size w (w.alloc (.map #[] 0)) := (Below.refl _ _).alloc (Nat.le_refl _) _
  refine sq hF (wantedS hgd) (v := .map (some w.heap.size)) (w2 := w.alloc (.map #[] 0)) ?_ hd hs fun a2 hF2 => h _ a2 _ (Nat.le_refl _) hb hF2 (hM.addS hb (Nat.le_refl _) (isMap4_of (World.ownsMap_made w _ _ _) fun _ => ⟨rfl, rfl⟩))
  unfold execOp
  cases r with
  | none => simp only [ho, Option.map, Sem.run_bind, run_makeMap, Result.andThen_ok, Sem.run_pure]
  | some q =>
    obtain ⟨k, p, hq⟩ := hr q rfl
    simp only [ho, Option.map, hq]
    simp [Instr.makeMap, run_underlying Tryd.underlying106, go_sem]
end
end Go.Proofs.YtdjjiblijbjobaaDoor
/- Rows of numbers, four bytes out of a row. -/
namespace Go.Proofs.YtdjjiblijbjobaaDoor
open Go.RowKit
variable {D : List Deferred}

section
variable {a : Act} {o : Oper} {w w0 : World} {n s : Nat} {L : List (Nat × Value)} {v : Value} {ops : Array Oper} {rest : List Oper} {Q : Exit → Act → World → Prop} {M : List (Nat × (Obj → Prop))} {x y z : Operand} {g m i : Nat}
/-- four bytes out of a row. -/
theorem run_ld4 {l : List UInt8} (ho : o.op = .load 136 x) (hx : a.eval x = .pointer (some ⟨g, 0, none⟩)) (h : ∃ ob, w.heap[g]? = some ob ∧ isY l ob) (hl : l.length = 4) : (execOp a.eval o).run Tryd.prog w = .ok (.value (.agg (cells8 l))) w := by
  refine run_ldS (cs := l.map cb) ho hx (by kernel_rfl) (by rw [List.length_map, hl]; kernel_rfl) fun j u hj => ?_
  have hlt : j < l.length := by have := (List.getElem?_eq_some_iff.1 hj).1; simpa using this
  rw [Nat.zero_add, isY_cell h hlt]
  rw [List.getElem?_map, List.getElem?_eq_getElem hlt] at hj
  simp only [Option.map_some, Option.some.injEq] at hj
  rw [← hj]
  simp [cb, bt, hlt]
/-- rows of numbers. -/
def cellsI (zs : List Int) : Array Value := (zs.map fun z => Value.int .i64 z).toArray
theorem made_ints (m : Nat) : madeCells #[Value.int .i64 0] m = cellsI (List.replicate m 0) := by
  unfold madeCells cellsI
  apply Array.ext'
  simp [List.map_replicate]
  apply List.ext_getElem
  · simp
  · intro j h1 h2
    simp [Nat.mod_one]
theorem sqMakeI {k k2 : IntKind} {p p2 : Int} (hF : FrD D a n L) (hM : Mem w0 M w) (hgd : o.guard = none) (ho : o.op = .makeSlice 26 x y) (hx : a.eval x = .int k p) (hy : a.eval y = .int k2 p2) (hp : p = (m : Int)) (hp2 : p2 = (m : Int)) (hm : m ≤ 35184372088832) (hd : o.dst = some s) (hs : s < n)
    (h : ∀ g a2 w2, w.heap.size ≤ g → Below w.heap.size w w2 → FrD D a2 n ((s, .slice (some ⟨g, 0, none⟩) m m) :: L) → Mem w0 ((g, isB 3 (cellsI (List.replicate m 0))) :: M) w2 → wpList Tryd.prog ops Q rest a2 w2) : wpList Tryd.prog ops Q (o :: rest) a w := by
  subst hp hp2
  have hr := run_make_row' (P := Tryd.prog) 26 3 (.int .i64 0) 8 Tryd.underlying26 (by kernel_rfl) rfl k k2 m (by omega) (by omega) w
  rw [made_ints] at hr
  refine sqRow (cs := cellsI (List.replicate m 0)) (t := 3) hF hM (wantedS hgd) ?_ hd hs h
  unfold execOp
  simp only [ho, hx, hy, Sem.run_bind, hr, Result.andThen_ok, Sem.run_pure]
theorem run_idxI {k : IntKind} {p : Int} {cnt c : Nat} (ho : o.op = .indexAddr 26 x y) (hx : a.eval x = .slice (some ⟨g, 0, none⟩) cnt c) (hy : a.eval y = .int k p) (hp : p = (i : Int)) (hi : i < cnt) : (execOp a.eval o).run Tryd.prog w = .ok (.value (.pointer (some ⟨g, i, none⟩))) w := by
  subst hp
  have he : Tryd.prog.elem 26 = 3 := by simp [Program.elem, Tryd.underlying26]
  have ht : Tryd.prog.underlying 26 = some (.slice (Tryd.prog.elem 26)) := by rw [he]; exact Tryd.underlying26
  have hz : (sizeOf (Tryd.prog.elem 26)).run Tryd.prog w = .ok 1 w := by rw [he]; kernel_rfl
  have hr := run_indexAt_slice (P := Tryd.prog) w 26 ⟨g, 0, none⟩ cnt c k (i : Int) ht
  unfold execOp
  simp only [ho, hx, hy]
  rw [Sem.run_bind, hr, hz, if_pos (by omega)]
  simp [Addr.add]
  intro h; exact h.symm
theorem run_ldI {zs : List Int} {t : TypeId} {u : Int} (ho : o.op = .load 3 x) (hx : a.eval x = .pointer (some ⟨g, i, none⟩)) (hB : Blk w g t (cellsI zs)) (hi : zs[i]? = some u) : (execOp a.eval o).run Tryd.prog w = .ok (.value (.int .i64 u)) w := by
  refine run_ldC ho hx ?_ (by kernel_rfl)
  rw [hB.cell]
  simp [cellsI, hi]
theorem sqSetI {j : Nat} {zs : List Int} {u : Int} {t : TypeId} (hF : FrD D a n L) (hM : Mem w0 M w) (hgd : o.guard = none) (ho : o.op = .store 3 x y) (hd : o.dst = none) (hx : a.eval x = .pointer (some ⟨g, i, none⟩)) (hy : a.eval y = .int .i64 u)
    (e : M[j]? = some (g, isB t (cellsI zs))) (hi : i < zs.length) (h : ∀ a2 w2, w.grownBy w2 (some g) → FrD D a2 n L → Mem w0 (M.set j (g, isB t (cellsI (zs.set i u)))) w2 → wpList Tryd.prog ops Q rest a2 w2) : wpList Tryd.prog ops Q (o :: rest) a w := by
  have hB := hM.at j e
  have hc : w.cell? ⟨g, i, none⟩ = some (.int .i64 zs[i]) := by
    rw [hB.cell]
    simp [cellsI, hi]
  have hf := hB.frozen i
  refine sqN hF (wantedS hgd) (w2 := w.setCell ⟨g, i, none⟩ (.int .i64 u)) ?_ hd fun a2 hF2 => h a2 _ (grown_setCell w g i _) hF2 (hM.upd j e (grown_setCell w g i _) ⟨_, ?_, rfl⟩)
  · unfold execOp
    simp only [ho, hx, hy]
    simp [go_sem, hc, hf]
  · unfold Blk at hB
    have hlt : g < w.heap.size := (Array.getElem?_eq_some_iff.1 hB).1
    simp [World.setCell, Array.getElem?_modify, hB, cellsI, List.map_set]
theorem sqSet1 {j : Nat} {u old : Int} {t : TypeId} (hF : FrD D a n L) (hM : Mem w0 M w) (hgd : o.guard = none) (ho : o.op = .store 3 x y) (hd : o.dst = none) (hx : a.eval x = .pointer (some ⟨g, 0, none⟩)) (hy : a.eval y = .int .i64 u)
    (e : M[j]? = some (g, isB t #[.int .i64 old])) (h : ∀ a2 w2, w.grownBy w2 (some g) → FrD D a2 n L → Mem w0 (M.set j (g, isB t #[.int .i64 u])) w2 → wpList Tryd.prog ops Q rest a2 w2) : wpList Tryd.prog ops Q (o :: rest) a w :=
  sqSetI (i := 0) (zs := [old]) hF hM hgd ho hd hx hy e (by simp) h
end
end Go.Proofs.YtdjjiblijbjobaaDoor
/- The walks of lz.run, lz.token and lz.Unpack. Printed by gen_lz1.py. -/
namespace Go.Proofs.YtdjjiblijbjobaaDoor
open Go.RowKit

set_option maxRecDepth 100000 in
set_option maxHeartbeats 1000000 in
theorem zrun_any (b l : List UInt8) (v : Value) (w0 w : World) (M : List (Nat × (Obj → Prop))) (hM : Mem w0 M w) (hO : OwnR w0 M w 5 1 v b.length (b.map cb)) (hlen : b.length + 2 * l.length ≤ 2 ^ 40) :
    Calls Tryd.prog 75 #[v, .string ⟨l.toArray⟩] w fun e w' => ∃ u, e = .returned u ∧ OwnR w0 M w' 5 1 u (b ++ runS l).length ((b ++ runS l).map cb) ∧ Mem w0 M w' := by
  refine walk_enter Tryd.func75 rfl rfl rfl fun a0 F0 => ?_
  have M0 := hM
  refine wsl ?_
  refine sr (v := (.slice none 0 0)) F0 (run_as rfl rfl) rfl rfl rfl fun a1 F1 => ?_
  refine sn ?_
  clear F0
  refine wp_seq ?_
  refine wp_block ?_
  refine wkLoop (fun m a w2 => ∃ (b2 l2 : List UInt8) (r : Value), m = l2.length ∧ b2 ++ runS l2 = b ++ runS l ∧ b2.length + 2 * l2.length ≤ 2 ^ 40 ∧ OwnR w0 M w2 5 1 r (b2).length ((b2).map cb) ∧ Fr a 27 [(0, r), (1, .string ⟨l2.toArray⟩)] ∧ Mem w0 M w2) l.length ⟨b, l, v, rfl, rfl, hlen, hO, F1.sub ⟨rfl, rfl, trivial⟩, M0⟩ ?_
  rintro m a0 w1 ⟨b2, l2, r, rfl, he, hlen2, hO0, F0, M0⟩
  by_cases hlt : 0 < l2.length
  · have hne : l2 ≠ [] := List.length_pos_iff.1 hlt
    have hk : (UInt8.ofNat (min l2.length 128 - 1)).toNat = min l2.length 128 - 1 := by rw [UInt8.toNat_ofNat']; omega
    obtain ⟨k, hkk⟩ : ∃ k, min l2.length 128 = k := ⟨_, rfl⟩
    rw [hkk] at hk
    have hk1 : 0 < k ∧ k ≤ 128 ∧ k ≤ l2.length := by omega
    refine wp_seq ?_
    refine wsl ?_
    refine mvS F0 rfl rfl rfl rfl rfl fun a1 F1 => ?_
    refine sr F1 (run_len rfl (F1.ev 6 rfl) rfl Tryd.underlying9) rfl rfl rfl fun a2 F2 => ?_
    refine sr (v := (.bool true)) F2 (run_gtr rfl (F2.ev 7 rfl) rfl (decide_eq_true (by omega))) rfl rfl rfl fun a3 F3 => ?_
    refine sn ?_
    clear F0 F1 F2
    refine cts (F3.ev 8 rfl) ?_
    refine wp_block ?_
    refine wsl ?_
    refine mvS F3 rfl rfl rfl rfl rfl fun a4 F4 => ?_
    refine sr F4 (run_len rfl (F4.ev 9 rfl) rfl Tryd.underlying9) rfl rfl rfl fun a5 F5 => ?_
    refine sr (v := (.int .i64 (k : Int))) F5 (run_min2 (r := (k : Int)) rfl (F5.ev 10 rfl) rfl (by split <;> omega)) rfl rfl rfl fun a6 F6 => ?_
    refine asS F6 rfl rfl rfl rfl rfl fun a7 F7 => ?_
    refine sn ?_
    clear F3 F4 F5 F6
    refine wsl ?_
    refine mvS F7 rfl rfl rfl rfl rfl fun a8 F8 => ?_
    refine mvS F8 rfl rfl rfl rfl rfl fun a9 F9 => ?_
    refine sr F9 (run_sub (r := ((k - 1 : Nat) : Int)) rfl (F9.ev 13 rfl) rfl (by rw [IntKind.wrap_i64]; omega)) rfl rfl rfl fun a10 F10 => ?_
    refine sr F10 (run_cvI (r := ((UInt8.ofNat (k - 1)).toNat : Int)) rfl (F10.ev 14 rfl) Tryd.underlying3 Tryd.underlying5 (by rw [hk, IntKind.wrap_u8]; omega)) rfl rfl rfl fun a11 F11 => ?_
    refine sqBytes [(UInt8.ofNat (k - 1))] F11 M0 (wantedS rfl) (run_bytes1 rfl (F11.ev 15 rfl)) rfl (by decide) fun g0 a12 w2 hgg0 hb2 F12 M1 => ?_
    have hO1 := hO0.add (S := isB 5 (cells8 [(UInt8.ofNat (k - 1))])) hb2 hgg0
    refine sqAppendB (l := [(UInt8.ofNat (k - 1))]) (b := b2) F12 M1 hO1 rfl rfl (F12.ev 12 rfl) (F12.ev 16 rfl) rfl (M1.at 0 rfl) (by simp; omega) rfl (by decide) fun v1 a13 w3 hO2 M2 F13 => ?_
    refine asS F13 rfl rfl rfl rfl rfl fun a14 F14 => ?_
    refine sn ?_
    clear F7 F8 F9 F10 F11 F12 F13 M0 M1
    refine wsl ?_
    refine mvS F14 rfl rfl rfl rfl rfl fun a15 F15 => ?_
    refine mvS F15 rfl rfl rfl rfl rfl fun a16 F16 => ?_
    refine mvS F16 rfl rfl rfl rfl rfl fun a17 F17 => ?_
    refine sr (v := (.string ⟨(l2.take k).toArray⟩)) F17 (run_sTo (n := k) rfl (F17.ev 19 rfl) (F17.ev 20 rfl) Tryd.underlying9 (by omega) (by omega)) rfl rfl rfl fun a18 F18 => ?_
    refine sqAppendS (l := (l2.take k)) (b := (b2 ++ [(UInt8.ofNat (k - 1))])) F18 M2 hO2 rfl rfl (F18.ev 18 rfl) (F18.ev 21 rfl) (by simp; omega) rfl (by decide) fun v2 a19 w4 hO3 M3 F19 => ?_
    refine asS F19 rfl rfl rfl rfl rfl fun a20 F20 => ?_
    refine sn ?_
    clear F14 F15 F16 F17 F18 F19 M2
    refine wp_region_lit ?_
    refine mvS F20 rfl rfl rfl rfl rfl fun a21 F21 => ?_
    refine mvS F21 rfl rfl rfl rfl rfl fun a22 F22 => ?_
    refine sr (v := (.string ⟨(l2.drop k).toArray⟩)) F22 (run_sFrom (m := k) rfl (F22.ev 23 rfl) (F22.ev 24 rfl) Tryd.underlying9 (by omega) (by omega)) rfl rfl rfl fun a23 F23 => ?_
    refine asS F23 rfl rfl rfl rfl rfl fun a24 F24 => ?_
    refine sqEnd ?_
    clear F20 F21 F22 F23
    refine bkEnd ?_
    refine nx ?_
    refine ⟨_, by rw [List.length_drop]; omega, _, l2.drop k, v2, rfl, ?_, ?_, hO3.sub (.cons _ (.refl _)), F24.sub ⟨rfl, rfl, trivial⟩, M3.sub (.cons _ (.refl _))⟩
    · rw [← he, runS_cons hne, hkk]
      have e1 : l2.take 128 = l2.take k := by rcases Nat.lt_or_ge l2.length 128 with h | h
                                              · rw [List.take_of_length_le (by omega), List.take_of_length_le (by omega)]
                                              · rw [show k = 128 by omega]
      have e2 : l2.drop 128 = l2.drop k := by rcases Nat.lt_or_ge l2.length 128 with h | h
                                              · rw [List.drop_eq_nil_of_le (by omega), List.drop_eq_nil_of_le (by omega)]
                                              · rw [show k = 128 by omega]
      rw [e1, e2]
      simp
    · simp
      omega
  · have he0 : l2 = [] := List.length_eq_zero_iff.1 (by omega)
    have hres : b ++ runS l = b2 := by rw [← he, he0, runS_nil, List.append_nil]
    refine wp_seq ?_
    refine wsl ?_
    refine mvS F0 rfl rfl rfl rfl rfl fun a1 F1 => ?_
    refine sr F1 (run_len rfl (F1.ev 6 rfl) rfl Tryd.underlying9) rfl rfl rfl fun a2 F2 => ?_
    refine sr (v := (.bool false)) F2 (run_gtr rfl (F2.ev 7 rfl) rfl (decide_eq_false (by omega))) rfl rfl rfl fun a3 F3 => ?_
    refine sn ?_
    clear F0 F1 F2
    refine wp_cond_false (F3.ev 8 rfl) ?_
    refine wp_exit ?_
    refine nxExit ?_
    refine nxExit ?_
    refine bkHere ?_
    refine nx ?_
    refine wsl ?_
    refine mvS F3 rfl rfl rfl rfl rfl fun a4 F4 => ?_
    refine asS F4 rfl rfl rfl rfl rfl fun a5 F5 => ?_
    refine sn ?_
    clear F3 F4
    refine wp_ret ?_
    exact ret1 F5 rfl rfl ⟨r, rfl, by rw [hres]; exact hO0, M0⟩
theorem i64_or2 (a b : Nat) (ha : a < 9223372036854775808) (hb : b < 9223372036854775808) : bits .or .i64 (a : Int) (b : Int) = ((a ||| b : Nat) : Int) := by
  have hx : a ||| b < 2 ^ 63 := Nat.or_lt_two_pow (by omega) (by omega)
  show IntKind.i64.wrap ((BitVec.ofInt 64 (a : Int) ||| BitVec.ofInt 64 (b : Int)).toNat : Int) = _
  have e : ∀ c : Nat, c < 9223372036854775808 → (BitVec.ofInt 64 (c : Int)).toNat = c := by
    intro c hc
    rw [BitVec.toNat_ofInt]
    omega
  rw [BitVec.toNat_or, e a ha, e b hb, IntKind.wrap_i64]
  omega
theorem or8 (n m : Nat) (hn : n < 256) (hm : m < 256) : bits .or .i64 (n : Int) ((256 * m : Nat) : Int) = ((n + 256 * m : Nat) : Int) := by
  rw [i64_or2 n _ (by omega) (by omega)]
  congr 1
  have h3 := Nat.shiftLeft_add_eq_or_of_lt (i := 8) (b := n) (by omega) m
  rw [Nat.shiftLeft_eq] at h3
  rw [Nat.or_comm, show 256 * m = m * 2 ^ 8 by omega, ← h3, Nat.add_comm]
set_option maxRecDepth 100000 in
set_option maxHeartbeats 1000000 in
theorem ztok_any (out b : List UInt8) (most : Nat) (v : Value) (w0 w : World) (M : List (Nat × (Obj → Prop))) (hM : Mem w0 M w) (hO : OwnR w0 M w 5 1 v out.length (out.map cb)) (hb : 0 < b.length) (hout : out.length ≤ 2 ^ 40) (hbl : b.length ≤ 2 ^ 40) (hmost : most ≤ maxLen) :
    Calls Tryd.prog 100 #[v, .string ⟨b.toArray⟩, .int .i64 (most : Int)] w fun e w' => ∃ r, e = .returned r ∧ ∃ u, r = .tuple #[u, .int .i64 ((tokS out b (most : Int)).2.2 : Int), .int .i64 (tokS out b (most : Int)).1] ∧ OwnR w0 M w' 5 1 u (tokS out b (most : Int)).2.1.length ((tokS out b (most : Int)).2.1.map cb) ∧ Mem w0 M w' := by
  unfold maxLen at hmost
  have h0 := (bt b 0).toNat_lt
  have h1 := (bt b 1).toNat_lt
  have h2 := (bt b 2).toNat_lt
  obtain ⟨c, hc⟩ : ∃ c, (bt b 0).toNat = c := ⟨_, rfl⟩
  obtain ⟨far, hfar⟩ : ∃ far, (bt b 1).toNat + 256 * (bt b 2).toNat = far := ⟨_, rfl⟩
  have hc' : (b.getD 0 0).toNat = c := hc
  have hfar' : (b.getD 1 0).toNat + 256 * (b.getD 2 0).toNat = far := hfar
  by_cases k1 : c < 128
  · by_cases k2 : b.length < c + 2
    · have hres : tokS out b (most : Int) = (4, [], 0) := by unfold tokS; rw [hc', if_pos k1, if_pos k2]
      refine walk_enter Tryd.func100 rfl rfl rfl fun a0 F0 => ?_
      have M0 := hM
      refine wsl ?_
      refine sr (v := (.slice none 0 0)) F0 (run_as rfl rfl) rfl rfl rfl fun a1 F1 => ?_
      refine sr (v := (.int .i64 0)) F1 (run_as rfl rfl) rfl rfl rfl fun a2 F2 => ?_
      refine sr (v := (.int .i64 0)) F2 (run_as rfl rfl) rfl rfl rfl fun a3 F3 => ?_
      refine sn ?_
      clear F0 F1 F2
      refine wp_seq ?_
      refine wsl ?_
      refine mvS F3 rfl rfl rfl rfl rfl fun a4 F4 => ?_
      refine sr (v := (.int .u8 ((bt b 0).toNat : Int))) F4 (run_sAt (n := 0) rfl (F4.ev 12 rfl) rfl Tryd.underlying9 rfl (by omega)) rfl rfl rfl fun a5 F5 => ?_
      refine sr (v := (.bool true)) F5 (run_lss rfl (F5.ev 13 rfl) rfl (decide_eq_true (by omega))) rfl rfl rfl fun a6 F6 => ?_
      refine sn ?_
      clear F3 F4 F5
      refine wp_cond_true (F6.ev 14 rfl) ?_
      refine wsl ?_
      refine mvS F6 rfl rfl rfl rfl rfl fun a7 F7 => ?_
      refine sr (v := (.int .u8 ((bt b 0).toNat : Int))) F7 (run_sAt (n := 0) rfl (F7.ev 15 rfl) rfl Tryd.underlying9 rfl (by omega)) rfl rfl rfl fun a8 F8 => ?_
      refine sr F8 (run_cvI (r := (c : Int)) rfl (F8.ev 16 rfl) Tryd.underlying5 Tryd.underlying3 (by rw [IntKind.wrap_i64]; omega)) rfl rfl rfl fun a9 F9 => ?_
      refine sr F9 (run_add (r := ((c + 1 : Nat) : Int)) rfl (F9.ev 17 rfl) rfl (by rw [IntKind.wrap_i64]; omega)) rfl rfl rfl fun a10 F10 => ?_
      refine asS F10 rfl rfl rfl rfl rfl fun a11 F11 => ?_
      refine sn ?_
      clear F6 F7 F8 F9 F10
      refine wp_seq ?_
      refine wsl ?_
      refine mvS F11 rfl rfl rfl rfl rfl fun a12 F12 => ?_
      refine sr F12 (run_len rfl (F12.ev 19 rfl) rfl Tryd.underlying9) rfl rfl rfl fun a13 F13 => ?_
      refine mvS F13 rfl rfl rfl rfl rfl fun a14 F14 => ?_
      refine sr F14 (run_add (r := ((c + 2 : Nat) : Int)) rfl rfl (F14.ev 21 rfl) (by rw [IntKind.wrap_i64]; omega)) rfl rfl rfl fun a15 F15 => ?_
      refine sr (v := (.bool true)) F15 (run_lss rfl (F15.ev 20 rfl) (F15.ev 22 rfl) (decide_eq_true (by omega))) rfl rfl rfl fun a16 F16 => ?_
      refine sn ?_
      clear F11 F12 F13 F14 F15
      refine wp_cond_true (F16.ev 23 rfl) ?_
      refine wsl ?_
      refine sr (v := (.slice none 0 0)) F16 (run_as rfl rfl) rfl rfl rfl fun a17 F17 => ?_
      refine sr (v := (.int .i64 0)) F17 (run_as rfl rfl) rfl rfl rfl fun a18 F18 => ?_
      refine sr (v := (.int .i64 4)) F18 (run_as rfl rfl) rfl rfl rfl fun a19 F19 => ?_
      refine sn ?_
      clear F16 F17 F18
      refine wp_ret ?_
      refine nxRet ?_
      refine nxRet ?_
      exact ret3 F19 rfl rfl rfl rfl ⟨_, rfl, .slice none 0 0, by first | (rw [hres]; done) | (rw [hres]; rfl), by rw [hres]; exact OwnR.nil _ _ _ _ _, M0⟩
    · by_cases k3 : (most : Int) < out.length + c + 1
      · have hres : tokS out b (most : Int) = (6, [], 0) := by unfold tokS; rw [hc', if_pos k1, if_neg k2, if_pos k3]
        refine walk_enter Tryd.func100 rfl rfl rfl fun a0 F0 => ?_
        have M0 := hM
        refine wsl ?_
        refine sr (v := (.slice none 0 0)) F0 (run_as rfl rfl) rfl rfl rfl fun a1 F1 => ?_
        refine sr (v := (.int .i64 0)) F1 (run_as rfl rfl) rfl rfl rfl fun a2 F2 => ?_
        refine sr (v := (.int .i64 0)) F2 (run_as rfl rfl) rfl rfl rfl fun a3 F3 => ?_
        refine sn ?_
        clear F0 F1 F2
        refine wp_seq ?_
        refine wsl ?_
        refine mvS F3 rfl rfl rfl rfl rfl fun a4 F4 => ?_
        refine sr (v := (.int .u8 ((bt b 0).toNat : Int))) F4 (run_sAt (n := 0) rfl (F4.ev 12 rfl) rfl Tryd.underlying9 rfl (by omega)) rfl rfl rfl fun a5 F5 => ?_
        refine sr (v := (.bool true)) F5 (run_lss rfl (F5.ev 13 rfl) rfl (decide_eq_true (by omega))) rfl rfl rfl fun a6 F6 => ?_
        refine sn ?_
        clear F3 F4 F5
        refine wp_cond_true (F6.ev 14 rfl) ?_
        refine wsl ?_
        refine mvS F6 rfl rfl rfl rfl rfl fun a7 F7 => ?_
        refine sr (v := (.int .u8 ((bt b 0).toNat : Int))) F7 (run_sAt (n := 0) rfl (F7.ev 15 rfl) rfl Tryd.underlying9 rfl (by omega)) rfl rfl rfl fun a8 F8 => ?_
        refine sr F8 (run_cvI (r := (c : Int)) rfl (F8.ev 16 rfl) Tryd.underlying5 Tryd.underlying3 (by rw [IntKind.wrap_i64]; omega)) rfl rfl rfl fun a9 F9 => ?_
        refine sr F9 (run_add (r := ((c + 1 : Nat) : Int)) rfl (F9.ev 17 rfl) rfl (by rw [IntKind.wrap_i64]; omega)) rfl rfl rfl fun a10 F10 => ?_
        refine asS F10 rfl rfl rfl rfl rfl fun a11 F11 => ?_
        refine sn ?_
        clear F6 F7 F8 F9 F10
        refine wp_seq ?_
        refine wsl ?_
        refine mvS F11 rfl rfl rfl rfl rfl fun a12 F12 => ?_
        refine sr F12 (run_len rfl (F12.ev 19 rfl) rfl Tryd.underlying9) rfl rfl rfl fun a13 F13 => ?_
        refine mvS F13 rfl rfl rfl rfl rfl fun a14 F14 => ?_
        refine sr F14 (run_add (r := ((c + 2 : Nat) : Int)) rfl rfl (F14.ev 21 rfl) (by rw [IntKind.wrap_i64]; omega)) rfl rfl rfl fun a15 F15 => ?_
        refine sr (v := (.bool false)) F15 (run_lss rfl (F15.ev 20 rfl) (F15.ev 22 rfl) (decide_eq_false (by omega))) rfl rfl rfl fun a16 F16 => ?_
        refine sn ?_
        clear F11 F12 F13 F14 F15
        refine cfs (F16.ev 23 rfl) ?_
        refine wp_seq ?_
        refine wsl ?_
        refine mvS F16 rfl rfl rfl rfl rfl fun a17 F17 => ?_
        refine mvS F17 rfl rfl rfl rfl rfl fun a18 F18 => ?_
        refine mvS F18 rfl rfl rfl rfl rfl fun a19 F19 => ?_
        refine sr F19 (run_lenS rfl (F19.ev 26 rfl) (Sl.own hO) rfl Tryd.underlying48) rfl rfl rfl fun a20 F20 => ?_
        refine sr F20 (run_sub (r := (most : Int) - (out.length : Int)) rfl (F20.ev 25 rfl) (F20.ev 27 rfl) (by rw [IntKind.wrap_i64]; omega)) rfl rfl rfl fun a21 F21 => ?_
        refine sr (v := (.bool true)) F21 (run_gtr rfl (F21.ev 24 rfl) (F21.ev 28 rfl) (decide_eq_true (by omega))) rfl rfl rfl fun a22 F22 => ?_
        refine sn ?_
        clear F16 F17 F18 F19 F20 F21
        refine wp_cond_true (F22.ev 29 rfl) ?_
        refine wsl ?_
        refine sr (v := (.slice none 0 0)) F22 (run_as rfl rfl) rfl rfl rfl fun a23 F23 => ?_
        refine sr (v := (.int .i64 0)) F23 (run_as rfl rfl) rfl rfl rfl fun a24 F24 => ?_
        refine sr (v := (.int .i64 6)) F24 (run_as rfl rfl) rfl rfl rfl fun a25 F25 => ?_
        refine sn ?_
        clear F22 F23 F24
        refine wp_ret ?_
        refine nxRet ?_
        refine nxRet ?_
        exact ret3 F25 rfl rfl rfl rfl ⟨_, rfl, .slice none 0 0, by first | (rw [hres]; done) | (rw [hres]; rfl), by rw [hres]; exact OwnR.nil _ _ _ _ _, M0⟩
      · have hres : tokS out b (most : Int) = (0, out ++ (b.drop 1).take (c + 1), c + 2) := by unfold tokS; rw [hc', if_pos k1, if_neg k2, if_neg k3]
        refine walk_enter Tryd.func100 rfl rfl rfl fun a0 F0 => ?_
        have M0 := hM
        refine wsl ?_
        refine sr (v := (.slice none 0 0)) F0 (run_as rfl rfl) rfl rfl rfl fun a1 F1 => ?_
        refine sr (v := (.int .i64 0)) F1 (run_as rfl rfl) rfl rfl rfl fun a2 F2 => ?_
        refine sr (v := (.int .i64 0)) F2 (run_as rfl rfl) rfl rfl rfl fun a3 F3 => ?_
        refine sn ?_
        clear F0 F1 F2
        refine wp_seq ?_
        refine wsl ?_
        refine mvS F3 rfl rfl rfl rfl rfl fun a4 F4 => ?_
        refine sr (v := (.int .u8 ((bt b 0).toNat : Int))) F4 (run_sAt (n := 0) rfl (F4.ev 12 rfl) rfl Tryd.underlying9 rfl (by omega)) rfl rfl rfl fun a5 F5 => ?_
        refine sr (v := (.bool true)) F5 (run_lss rfl (F5.ev 13 rfl) rfl (decide_eq_true (by omega))) rfl rfl rfl fun a6 F6 => ?_
        refine sn ?_
        clear F3 F4 F5
        refine wp_cond_true (F6.ev 14 rfl) ?_
        refine wsl ?_
        refine mvS F6 rfl rfl rfl rfl rfl fun a7 F7 => ?_
        refine sr (v := (.int .u8 ((bt b 0).toNat : Int))) F7 (run_sAt (n := 0) rfl (F7.ev 15 rfl) rfl Tryd.underlying9 rfl (by omega)) rfl rfl rfl fun a8 F8 => ?_
        refine sr F8 (run_cvI (r := (c : Int)) rfl (F8.ev 16 rfl) Tryd.underlying5 Tryd.underlying3 (by rw [IntKind.wrap_i64]; omega)) rfl rfl rfl fun a9 F9 => ?_
        refine sr F9 (run_add (r := ((c + 1 : Nat) : Int)) rfl (F9.ev 17 rfl) rfl (by rw [IntKind.wrap_i64]; omega)) rfl rfl rfl fun a10 F10 => ?_
        refine asS F10 rfl rfl rfl rfl rfl fun a11 F11 => ?_
        refine sn ?_
        clear F6 F7 F8 F9 F10
        refine wp_seq ?_
        refine wsl ?_
        refine mvS F11 rfl rfl rfl rfl rfl fun a12 F12 => ?_
        refine sr F12 (run_len rfl (F12.ev 19 rfl) rfl Tryd.underlying9) rfl rfl rfl fun a13 F13 => ?_
        refine mvS F13 rfl rfl rfl rfl rfl fun a14 F14 => ?_
        refine sr F14 (run_add (r := ((c + 2 : Nat) : Int)) rfl rfl (F14.ev 21 rfl) (by rw [IntKind.wrap_i64]; omega)) rfl rfl rfl fun a15 F15 => ?_
        refine sr (v := (.bool false)) F15 (run_lss rfl (F15.ev 20 rfl) (F15.ev 22 rfl) (decide_eq_false (by omega))) rfl rfl rfl fun a16 F16 => ?_
        refine sn ?_
        clear F11 F12 F13 F14 F15
        refine cfs (F16.ev 23 rfl) ?_
        refine wp_seq ?_
        refine wsl ?_
        refine mvS F16 rfl rfl rfl rfl rfl fun a17 F17 => ?_
        refine mvS F17 rfl rfl rfl rfl rfl fun a18 F18 => ?_
        refine mvS F18 rfl rfl rfl rfl rfl fun a19 F19 => ?_
        refine sr F19 (run_lenS rfl (F19.ev 26 rfl) (Sl.own hO) rfl Tryd.underlying48) rfl rfl rfl fun a20 F20 => ?_
        refine sr F20 (run_sub (r := (most : Int) - (out.length : Int)) rfl (F20.ev 25 rfl) (F20.ev 27 rfl) (by rw [IntKind.wrap_i64]; omega)) rfl rfl rfl fun a21 F21 => ?_
        refine sr (v := (.bool false)) F21 (run_gtr rfl (F21.ev 24 rfl) (F21.ev 28 rfl) (decide_eq_false (by omega))) rfl rfl rfl fun a22 F22 => ?_
        refine sn ?_
        clear F16 F17 F18 F19 F20 F21
        refine cfs (F22.ev 29 rfl) ?_
        refine wsl ?_
        refine mvS F22 rfl rfl rfl rfl rfl fun a23 F23 => ?_
        refine mvS F23 rfl rfl rfl rfl rfl fun a24 F24 => ?_
        refine mvS F24 rfl rfl rfl rfl rfl fun a25 F25 => ?_
        refine sr F25 (run_add (r := ((c + 2 : Nat) : Int)) rfl rfl (F25.ev 32 rfl) (by rw [IntKind.wrap_i64]; omega)) rfl rfl rfl fun a26 F26 => ?_
        refine sr (v := (.string ⟨((b.drop 1).take (c + 1)).toArray⟩)) F26 (run_sMidE (m := 1) (m2 := (c + 2)) (by rw [show c + 2 - 1 = c + 1 by omega]) rfl (F26.ev 31 rfl) rfl (F26.ev 33 rfl) Tryd.underlying9 (by omega) (by omega) (by omega) (by omega)) rfl rfl rfl fun a27 F27 => ?_
        refine sqAppendS (l := ((b.drop 1).take (c + 1))) (b := out) F27 M0 hO rfl rfl (F27.ev 30 rfl) (F27.ev 34 rfl) (by simp; omega) rfl (by decide) fun v0 a28 w1 hO1 M1 F28 => ?_
        refine mvS F28 rfl rfl rfl rfl rfl fun a29 F29 => ?_
        refine sr F29 (run_add (r := ((c + 2 : Nat) : Int)) rfl rfl (F29.ev 36 rfl) (by rw [IntKind.wrap_i64]; omega)) rfl rfl rfl fun a30 F30 => ?_
        refine asS F30 rfl rfl rfl rfl rfl fun a31 F31 => ?_
        refine asS F31 rfl rfl rfl rfl rfl fun a32 F32 => ?_
        refine sr (v := (.int .i64 0)) F32 (run_as rfl rfl) rfl rfl rfl fun a33 F33 => ?_
        refine sn ?_
        clear F22 F23 F24 F25 F26 F27 F28 F29 F30 F31 F32 M0
        refine wp_ret ?_
        refine nxRet ?_
        exact ret3 F33 rfl rfl rfl rfl ⟨_, rfl, v0, by first | (rw [hres]; done) | (rw [hres]; rfl), by rw [hres]; exact hO1, M1⟩
  · by_cases k2 : b.length < 3
    · have hres : tokS out b (most : Int) = (4, [], 0) := by unfold tokS; rw [hc', if_neg k1, if_pos k2]
      refine walk_enter Tryd.func100 rfl rfl rfl fun a0 F0 => ?_
      have M0 := hM
      refine wsl ?_
      refine sr (v := (.slice none 0 0)) F0 (run_as rfl rfl) rfl rfl rfl fun a1 F1 => ?_
      refine sr (v := (.int .i64 0)) F1 (run_as rfl rfl) rfl rfl rfl fun a2 F2 => ?_
      refine sr (v := (.int .i64 0)) F2 (run_as rfl rfl) rfl rfl rfl fun a3 F3 => ?_
      refine sn ?_
      clear F0 F1 F2
      refine wp_seq ?_
      refine wsl ?_
      refine mvS F3 rfl rfl rfl rfl rfl fun a4 F4 => ?_
      refine sr (v := (.int .u8 ((bt b 0).toNat : Int))) F4 (run_sAt (n := 0) rfl (F4.ev 12 rfl) rfl Tryd.underlying9 rfl (by omega)) rfl rfl rfl fun a5 F5 => ?_
      refine sr (v := (.bool false)) F5 (run_lss rfl (F5.ev 13 rfl) rfl (decide_eq_false (by omega))) rfl rfl rfl fun a6 F6 => ?_
      refine sn ?_
      clear F3 F4 F5
      refine cfs (F6.ev 14 rfl) ?_
      refine wp_seq ?_
      refine wsl ?_
      refine mvS F6 rfl rfl rfl rfl rfl fun a7 F7 => ?_
      refine sr F7 (run_len rfl (F7.ev 38 rfl) rfl Tryd.underlying9) rfl rfl rfl fun a8 F8 => ?_
      refine sr (v := (.bool true)) F8 (run_lss rfl (F8.ev 39 rfl) rfl (decide_eq_true (by omega))) rfl rfl rfl fun a9 F9 => ?_
      refine sn ?_
      clear F6 F7 F8
      refine wp_cond_true (F9.ev 40 rfl) ?_
      refine wsl ?_
      refine sr (v := (.slice none 0 0)) F9 (run_as rfl rfl) rfl rfl rfl fun a10 F10 => ?_
      refine sr (v := (.int .i64 0)) F10 (run_as rfl rfl) rfl rfl rfl fun a11 F11 => ?_
      refine sr (v := (.int .i64 4)) F11 (run_as rfl rfl) rfl rfl rfl fun a12 F12 => ?_
      refine sn ?_
      clear F9 F10 F11
      refine wp_ret ?_
      refine nxRet ?_
      exact ret3 F12 rfl rfl rfl rfl ⟨_, rfl, .slice none 0 0, by first | (rw [hres]; done) | (rw [hres]; rfl), by rw [hres]; exact OwnR.nil _ _ _ _ _, M0⟩
    · by_cases k3 : far = 0
      · have hres : tokS out b (most : Int) = (3, [], 0) := by unfold tokS; rw [hc', if_neg k1, if_neg k2, hfar', if_pos (.inl k3)]
        refine walk_enter Tryd.func100 rfl rfl rfl fun a0 F0 => ?_
        have M0 := hM
        refine wsl ?_
        refine sr (v := (.slice none 0 0)) F0 (run_as rfl rfl) rfl rfl rfl fun a1 F1 => ?_
        refine sr (v := (.int .i64 0)) F1 (run_as rfl rfl) rfl rfl rfl fun a2 F2 => ?_
        refine sr (v := (.int .i64 0)) F2 (run_as rfl rfl) rfl rfl rfl fun a3 F3 => ?_
        refine sn ?_
        clear F0 F1 F2
        refine wp_seq ?_
        refine wsl ?_
        refine mvS F3 rfl rfl rfl rfl rfl fun a4 F4 => ?_
        refine sr (v := (.int .u8 ((bt b 0).toNat : Int))) F4 (run_sAt (n := 0) rfl (F4.ev 12 rfl) rfl Tryd.underlying9 rfl (by omega)) rfl rfl rfl fun a5 F5 => ?_
        refine sr (v := (.bool false)) F5 (run_lss rfl (F5.ev 13 rfl) rfl (decide_eq_false (by omega))) rfl rfl rfl fun a6 F6 => ?_
        refine sn ?_
        clear F3 F4 F5
        refine cfs (F6.ev 14 rfl) ?_
        refine wp_seq ?_
        refine wsl ?_
        refine mvS F6 rfl rfl rfl rfl rfl fun a7 F7 => ?_
        refine sr F7 (run_len rfl (F7.ev 38 rfl) rfl Tryd.underlying9) rfl rfl rfl fun a8 F8 => ?_
        refine sr (v := (.bool false)) F8 (run_lss rfl (F8.ev 39 rfl) rfl (decide_eq_false (by omega))) rfl rfl rfl fun a9 F9 => ?_
        refine sn ?_
        clear F6 F7 F8
        refine cfs (F9.ev 40 rfl) ?_
        refine wp_seq ?_
        obtain ⟨KL, hKL⟩ : ∃ KL, KL = [kval (.string ⟨b.toArray⟩), kval (.int .u8 ((bt b 1).toNat : Int)), kval (.int .i64 ((bt b 1).toNat : Int)), kval (.string ⟨b.toArray⟩), kval (.int .u8 ((bt b 2).toNat : Int)), kval (.int .i64 ((bt b 2).toNat : Int)), kval (.int .i64 ((256 * (bt b 2).toNat : Nat) : Int)), kval (.int .i64 (far : Int)), kval (.int .i64 (far : Int))] := ⟨_, rfl⟩
        have K0 := getK hKL 0
        have K1 := getK hKL 1
        have K2 := getK hKL 2
        have K3 := getK hKL 3
        have K4 := getK hKL 4
        have K5 := getK hKL 5
        have K6 := getK hKL 6
        have K7 := getK hKL 7
        have K8 := getK hKL 8
        clear hKL
        refine wp_region_kd 82 (by kernel_rfl) (by kernel_rfl) (by kernel_rfl) F9.size KL ?_ ?_
        · refine ⟨?_, ?_, ?_, ?_, ?_, ?_, ?_, ?_, ?_, trivial⟩
          · exact asksY rfl fun a W hS hh hd => giv_run (run_mv rfl (eval_tmp (hh 1 _ rfl (F9.at 1 rfl)))) K0
          · exact asksY rfl fun a W hS hh hd => giv_run (run_sAt (n := 1) rfl (eval_tmp (hd.vl 0 41 (by kernel_rfl) K0)) rfl Tryd.underlying9 rfl (by omega)) K1
          · exact asksY rfl fun a W hS hh hd => giv_run (run_cvI (r := ((bt b 1).toNat : Int)) rfl (eval_tmp (hd.vl 1 42 (by kernel_rfl) K1)) Tryd.underlying5 Tryd.underlying3 (by rw [IntKind.wrap_i64]; omega)) K2
          · exact asksY rfl fun a W hS hh hd => giv_run (run_mv rfl (eval_tmp (hh 1 _ rfl (F9.at 1 rfl)))) K3
          · exact asksY rfl fun a W hS hh hd => giv_run (run_sAt (n := 2) rfl (eval_tmp (hd.vl 3 44 (by kernel_rfl) K3)) rfl Tryd.underlying9 rfl (by omega)) K4
          · exact asksY rfl fun a W hS hh hd => giv_run (run_cvI (r := ((bt b 2).toNat : Int)) rfl (eval_tmp (hd.vl 4 45 (by kernel_rfl) K4)) Tryd.underlying5 Tryd.underlying3 (by rw [IntKind.wrap_i64]; omega)) K5
          · exact asksY rfl fun a W hS hh hd => giv_run (run_shl (r := ((256 * (bt b 2).toNat : Nat) : Int)) rfl (eval_tmp (hd.vl 5 46 (by kernel_rfl) K5)) rfl (by omega) (by first | decide | (simp [IntKind.bits]; omega)) (by rw [IntKind.wrap_i64]; simp; omega)) K6
          · exact asksY rfl fun a W hS hh hd => giv_run (run_or (r := (far : Int)) rfl (eval_tmp (hd.vl 2 43 (by kernel_rfl) K2)) (eval_tmp (hd.vl 6 47 (by kernel_rfl) K6)) (by rw [or8 _ _ h1 h2, hfar])) K7
          · exact asksY rfl fun a W hS hh hd => giv_run (run_as rfl (eval_tmp (hd.vl 7 48 (by kernel_rfl) K7))) K8
        · intro a10 w1 hb1 hK
          have e0 := hK.vl 0 41 (by kernel_rfl) K0
          have e1 := hK.vl 1 42 (by kernel_rfl) K1
          have e2 := hK.vl 2 43 (by kernel_rfl) K2
          have e3 := hK.vl 3 44 (by kernel_rfl) K3
          have e4 := hK.vl 4 45 (by kernel_rfl) K4
          have e5 := hK.vl 5 46 (by kernel_rfl) K5
          have e6 := hK.vl 6 47 (by kernel_rfl) K6
          have e7 := hK.vl 7 48 (by kernel_rfl) K7
          have e8 := hK.vl 8 10 (by kernel_rfl) K8
          have F10 : Fr a10 82 [(0, v), (1, (.string ⟨b.toArray⟩)), (2, (.int .i64 (most : Int))), (6, (.slice none 0 0)), (7, (.int .i64 0)), (8, (.int .i64 0)), (10, (.int .i64 (far : Int))), (12, (.string ⟨b.toArray⟩)), (13, (.int .u8 ((bt b 0).toNat : Int))), (14, (.bool false)), (38, (.string ⟨b.toArray⟩)), (39, (.int .i64 (b.length : Int))), (40, (.bool false))] := (hK.fr F9 [_, _, _, _, _, _, _, _, _] ⟨e0, e1, e2, e3, e4, e5, e6, e7, e8, trivial⟩).sub ⟨rfl, rfl, rfl, rfl, rfl, rfl, rfl, rfl, rfl, rfl, rfl, rfl, rfl, trivial⟩
          have M1 := M0.grow hb1
          have hO1 := hO.grow hb1
          clear hK K0 e0 K1 e1 K2 e2 K3 e3 K4 e4 K5 e5 K6 e6 K7 e7 K8 e8
          clear F9 M0
          refine nx ?_
          refine wp_seq ?_
          refine wsl ?_
          refine mvS F10 rfl rfl rfl rfl rfl fun a11 F11 => ?_
          refine sr (v := (.bool true)) F11 (run_eqi rfl (F11.ev 49 rfl) rfl (beq_iff_eq.2 (by omega))) rfl rfl rfl fun a12 F12 => ?_
          refine mvS F12 rfl rfl rfl rfl rfl fun a13 F13 => ?_
          refine sqSkip F13 (unwantedG F13 rfl rfl rfl rfl rfl) rfl (by decide) fun a14 F14 => ?_
          refine sqSkip F14 (unwantedG F14 rfl rfl rfl rfl rfl) rfl (by decide) fun a15 F15 => ?_
          refine sqSkip F15 (unwantedG F15 rfl rfl rfl rfl rfl) rfl (by decide) fun a16 F16 => ?_
          refine sqSkip F16 (unwantedG F16 rfl rfl rfl rfl rfl) rfl (by decide) fun a17 F17 => ?_
          refine sr (v := (.bool true)) F17 (run_pick rfl (F17.ev 51 rfl) rfl (F17.ev 55 rfl)) rfl rfl rfl fun a18 F18 => ?_
          refine sn ?_
          clear F10 F11 F12 F13 F14 F15 F16 F17
          refine wp_cond_true (F18.ev 56 rfl) ?_
          refine wsl ?_
          refine sr (v := (.slice none 0 0)) F18 (run_as rfl rfl) rfl rfl rfl fun a19 F19 => ?_
          refine sr (v := (.int .i64 0)) F19 (run_as rfl rfl) rfl rfl rfl fun a20 F20 => ?_
          refine sr (v := (.int .i64 3)) F20 (run_as rfl rfl) rfl rfl rfl fun a21 F21 => ?_
          refine sn ?_
          clear F18 F19 F20
          refine wp_ret ?_
          refine nxRet ?_
          exact ret3 F21 rfl rfl rfl rfl ⟨_, rfl, .slice none 0 0, by first | (rw [hres]; done) | (rw [hres]; rfl), by rw [hres]; exact OwnR.nil _ _ _ _ _, M1⟩
      · by_cases k4 : out.length < far
        · have hres : tokS out b (most : Int) = (3, [], 0) := by unfold tokS; rw [hc', if_neg k1, if_neg k2, hfar', if_pos (.inr k4)]
          refine walk_enter Tryd.func100 rfl rfl rfl fun a0 F0 => ?_
          have M0 := hM
          refine wsl ?_
          refine sr (v := (.slice none 0 0)) F0 (run_as rfl rfl) rfl rfl rfl fun a1 F1 => ?_
          refine sr (v := (.int .i64 0)) F1 (run_as rfl rfl) rfl rfl rfl fun a2 F2 => ?_
          refine sr (v := (.int .i64 0)) F2 (run_as rfl rfl) rfl rfl rfl fun a3 F3 => ?_
          refine sn ?_
          clear F0 F1 F2
          refine wp_seq ?_
          refine wsl ?_
          refine mvS F3 rfl rfl rfl rfl rfl fun a4 F4 => ?_
          refine sr (v := (.int .u8 ((bt b 0).toNat : Int))) F4 (run_sAt (n := 0) rfl (F4.ev 12 rfl) rfl Tryd.underlying9 rfl (by omega)) rfl rfl rfl fun a5 F5 => ?_
          refine sr (v := (.bool false)) F5 (run_lss rfl (F5.ev 13 rfl) rfl (decide_eq_false (by omega))) rfl rfl rfl fun a6 F6 => ?_
          refine sn ?_
          clear F3 F4 F5
          refine cfs (F6.ev 14 rfl) ?_
          refine wp_seq ?_
          refine wsl ?_
          refine mvS F6 rfl rfl rfl rfl rfl fun a7 F7 => ?_
          refine sr F7 (run_len rfl (F7.ev 38 rfl) rfl Tryd.underlying9) rfl rfl rfl fun a8 F8 => ?_
          refine sr (v := (.bool false)) F8 (run_lss rfl (F8.ev 39 rfl) rfl (decide_eq_false (by omega))) rfl rfl rfl fun a9 F9 => ?_
          refine sn ?_
          clear F6 F7 F8
          refine cfs (F9.ev 40 rfl) ?_
          refine wp_seq ?_
          obtain ⟨KL, hKL⟩ : ∃ KL, KL = [kval (.string ⟨b.toArray⟩), kval (.int .u8 ((bt b 1).toNat : Int)), kval (.int .i64 ((bt b 1).toNat : Int)), kval (.string ⟨b.toArray⟩), kval (.int .u8 ((bt b 2).toNat : Int)), kval (.int .i64 ((bt b 2).toNat : Int)), kval (.int .i64 ((256 * (bt b 2).toNat : Nat) : Int)), kval (.int .i64 (far : Int)), kval (.int .i64 (far : Int))] := ⟨_, rfl⟩
          have K0 := getK hKL 0
          have K1 := getK hKL 1
          have K2 := getK hKL 2
          have K3 := getK hKL 3
          have K4 := getK hKL 4
          have K5 := getK hKL 5
          have K6 := getK hKL 6
          have K7 := getK hKL 7
          have K8 := getK hKL 8
          clear hKL
          refine wp_region_kd 82 (by kernel_rfl) (by kernel_rfl) (by kernel_rfl) F9.size KL ?_ ?_
          · refine ⟨?_, ?_, ?_, ?_, ?_, ?_, ?_, ?_, ?_, trivial⟩
            · exact asksY rfl fun a W hS hh hd => giv_run (run_mv rfl (eval_tmp (hh 1 _ rfl (F9.at 1 rfl)))) K0
            · exact asksY rfl fun a W hS hh hd => giv_run (run_sAt (n := 1) rfl (eval_tmp (hd.vl 0 41 (by kernel_rfl) K0)) rfl Tryd.underlying9 rfl (by omega)) K1
            · exact asksY rfl fun a W hS hh hd => giv_run (run_cvI (r := ((bt b 1).toNat : Int)) rfl (eval_tmp (hd.vl 1 42 (by kernel_rfl) K1)) Tryd.underlying5 Tryd.underlying3 (by rw [IntKind.wrap_i64]; omega)) K2
            · exact asksY rfl fun a W hS hh hd => giv_run (run_mv rfl (eval_tmp (hh 1 _ rfl (F9.at 1 rfl)))) K3
            · exact asksY rfl fun a W hS hh hd => giv_run (run_sAt (n := 2) rfl (eval_tmp (hd.vl 3 44 (by kernel_rfl) K3)) rfl Tryd.underlying9 rfl (by omega)) K4
            · exact asksY rfl fun a W hS hh hd => giv_run (run_cvI (r := ((bt b 2).toNat : Int)) rfl (eval_tmp (hd.vl 4 45 (by kernel_rfl) K4)) Tryd.underlying5 Tryd.underlying3 (by rw [IntKind.wrap_i64]; omega)) K5
            · exact asksY rfl fun a W hS hh hd => giv_run (run_shl (r := ((256 * (bt b 2).toNat : Nat) : Int)) rfl (eval_tmp (hd.vl 5 46 (by kernel_rfl) K5)) rfl (by omega) (by first | decide | (simp [IntKind.bits]; omega)) (by rw [IntKind.wrap_i64]; simp; omega)) K6
            · exact asksY rfl fun a W hS hh hd => giv_run (run_or (r := (far : Int)) rfl (eval_tmp (hd.vl 2 43 (by kernel_rfl) K2)) (eval_tmp (hd.vl 6 47 (by kernel_rfl) K6)) (by rw [or8 _ _ h1 h2, hfar])) K7
            · exact asksY rfl fun a W hS hh hd => giv_run (run_as rfl (eval_tmp (hd.vl 7 48 (by kernel_rfl) K7))) K8
          · intro a10 w1 hb1 hK
            have e0 := hK.vl 0 41 (by kernel_rfl) K0
            have e1 := hK.vl 1 42 (by kernel_rfl) K1
            have e2 := hK.vl 2 43 (by kernel_rfl) K2
            have e3 := hK.vl 3 44 (by kernel_rfl) K3
            have e4 := hK.vl 4 45 (by kernel_rfl) K4
            have e5 := hK.vl 5 46 (by kernel_rfl) K5
            have e6 := hK.vl 6 47 (by kernel_rfl) K6
            have e7 := hK.vl 7 48 (by kernel_rfl) K7
            have e8 := hK.vl 8 10 (by kernel_rfl) K8
            have F10 : Fr a10 82 [(0, v), (1, (.string ⟨b.toArray⟩)), (2, (.int .i64 (most : Int))), (6, (.slice none 0 0)), (7, (.int .i64 0)), (8, (.int .i64 0)), (10, (.int .i64 (far : Int))), (12, (.string ⟨b.toArray⟩)), (13, (.int .u8 ((bt b 0).toNat : Int))), (14, (.bool false)), (38, (.string ⟨b.toArray⟩)), (39, (.int .i64 (b.length : Int))), (40, (.bool false))] := (hK.fr F9 [_, _, _, _, _, _, _, _, _] ⟨e0, e1, e2, e3, e4, e5, e6, e7, e8, trivial⟩).sub ⟨rfl, rfl, rfl, rfl, rfl, rfl, rfl, rfl, rfl, rfl, rfl, rfl, rfl, trivial⟩
            have M1 := M0.grow hb1
            have hO1 := hO.grow hb1
            clear hK K0 e0 K1 e1 K2 e2 K3 e3 K4 e4 K5 e5 K6 e6 K7 e7 K8 e8
            clear F9 M0
            refine nx ?_
            refine wp_seq ?_
            refine wsl ?_
            refine mvS F10 rfl rfl rfl rfl rfl fun a11 F11 => ?_
            refine sr (v := (.bool false)) F11 (run_eqi rfl (F11.ev 49 rfl) rfl (beq_eq_false_iff_ne.2 (by omega))) rfl rfl rfl fun a12 F12 => ?_
            refine mvS F12 rfl rfl rfl rfl rfl fun a13 F13 => ?_
            refine sq (v := (.int .i64 (far : Int))) F13 (wantedG F13 rfl rfl rfl rfl rfl) (run_mv rfl (F13.ev 10 rfl)) rfl (by decide) fun a14 F14 => ?_
            refine sq (v := v) F14 (wantedG F14 rfl rfl rfl rfl rfl) (run_mv rfl (F14.ev 0 rfl)) rfl (by decide) fun a15 F15 => ?_
            refine sq (v := (.int .i64 (out.length : Int))) F15 (wantedG F15 rfl rfl rfl rfl rfl) (run_lenS rfl (F15.ev 53 rfl) (Sl.own hO1) rfl Tryd.underlying48) rfl (by decide) fun a16 F16 => ?_
            refine sq (v := (.bool true)) F16 (wantedG F16 rfl rfl rfl rfl rfl) (run_gtr rfl (F16.ev 52 rfl) (F16.ev 54 rfl) (decide_eq_true (by omega))) rfl (by decide) fun a17 F17 => ?_
            refine sr (v := (.bool true)) F17 (run_pick rfl (F17.ev 51 rfl) rfl (F17.ev 55 rfl)) rfl rfl rfl fun a18 F18 => ?_
            refine sn ?_
            clear F10 F11 F12 F13 F14 F15 F16 F17
            refine wp_cond_true (F18.ev 56 rfl) ?_
            refine wsl ?_
            refine sr (v := (.slice none 0 0)) F18 (run_as rfl rfl) rfl rfl rfl fun a19 F19 => ?_
            refine sr (v := (.int .i64 0)) F19 (run_as rfl rfl) rfl rfl rfl fun a20 F20 => ?_
            refine sr (v := (.int .i64 3)) F20 (run_as rfl rfl) rfl rfl rfl fun a21 F21 => ?_
            refine sn ?_
            clear F18 F19 F20
            refine wp_ret ?_
            refine nxRet ?_
            exact ret3 F21 rfl rfl rfl rfl ⟨_, rfl, .slice none 0 0, by first | (rw [hres]; done) | (rw [hres]; rfl), by rw [hres]; exact OwnR.nil _ _ _ _ _, M1⟩
        · have k5 : ¬ (far = 0 ∨ out.length < far) := by omega
          by_cases k6 : (most : Int) < out.length + (c - 124 : Nat)
          · have hres : tokS out b (most : Int) = (6, [], 0) := by unfold tokS; rw [hc', if_neg k1, if_neg k2, hfar', if_neg k5, if_pos k6]
            refine walk_enter Tryd.func100 rfl rfl rfl fun a0 F0 => ?_
            have M0 := hM
            refine wsl ?_
            refine sr (v := (.slice none 0 0)) F0 (run_as rfl rfl) rfl rfl rfl fun a1 F1 => ?_
            refine sr (v := (.int .i64 0)) F1 (run_as rfl rfl) rfl rfl rfl fun a2 F2 => ?_
            refine sr (v := (.int .i64 0)) F2 (run_as rfl rfl) rfl rfl rfl fun a3 F3 => ?_
            refine sn ?_
            clear F0 F1 F2
            refine wp_seq ?_
            refine wsl ?_
            refine mvS F3 rfl rfl rfl rfl rfl fun a4 F4 => ?_
            refine sr (v := (.int .u8 ((bt b 0).toNat : Int))) F4 (run_sAt (n := 0) rfl (F4.ev 12 rfl) rfl Tryd.underlying9 rfl (by omega)) rfl rfl rfl fun a5 F5 => ?_
            refine sr (v := (.bool false)) F5 (run_lss rfl (F5.ev 13 rfl) rfl (decide_eq_false (by omega))) rfl rfl rfl fun a6 F6 => ?_
            refine sn ?_
            clear F3 F4 F5
            refine cfs (F6.ev 14 rfl) ?_
            refine wp_seq ?_
            refine wsl ?_
            refine mvS F6 rfl rfl rfl rfl rfl fun a7 F7 => ?_
            refine sr F7 (run_len rfl (F7.ev 38 rfl) rfl Tryd.underlying9) rfl rfl rfl fun a8 F8 => ?_
            refine sr (v := (.bool false)) F8 (run_lss rfl (F8.ev 39 rfl) rfl (decide_eq_false (by omega))) rfl rfl rfl fun a9 F9 => ?_
            refine sn ?_
            clear F6 F7 F8
            refine cfs (F9.ev 40 rfl) ?_
            refine wp_seq ?_
            obtain ⟨KL, hKL⟩ : ∃ KL, KL = [kval (.string ⟨b.toArray⟩), kval (.int .u8 ((bt b 1).toNat : Int)), kval (.int .i64 ((bt b 1).toNat : Int)), kval (.string ⟨b.toArray⟩), kval (.int .u8 ((bt b 2).toNat : Int)), kval (.int .i64 ((bt b 2).toNat : Int)), kval (.int .i64 ((256 * (bt b 2).toNat : Nat) : Int)), kval (.int .i64 (far : Int)), kval (.int .i64 (far : Int))] := ⟨_, rfl⟩
            have K0 := getK hKL 0
            have K1 := getK hKL 1
            have K2 := getK hKL 2
            have K3 := getK hKL 3
            have K4 := getK hKL 4
            have K5 := getK hKL 5
            have K6 := getK hKL 6
            have K7 := getK hKL 7
            have K8 := getK hKL 8
            clear hKL
            refine wp_region_kd 82 (by kernel_rfl) (by kernel_rfl) (by kernel_rfl) F9.size KL ?_ ?_
            · refine ⟨?_, ?_, ?_, ?_, ?_, ?_, ?_, ?_, ?_, trivial⟩
              · exact asksY rfl fun a W hS hh hd => giv_run (run_mv rfl (eval_tmp (hh 1 _ rfl (F9.at 1 rfl)))) K0
              · exact asksY rfl fun a W hS hh hd => giv_run (run_sAt (n := 1) rfl (eval_tmp (hd.vl 0 41 (by kernel_rfl) K0)) rfl Tryd.underlying9 rfl (by omega)) K1
              · exact asksY rfl fun a W hS hh hd => giv_run (run_cvI (r := ((bt b 1).toNat : Int)) rfl (eval_tmp (hd.vl 1 42 (by kernel_rfl) K1)) Tryd.underlying5 Tryd.underlying3 (by rw [IntKind.wrap_i64]; omega)) K2
              · exact asksY rfl fun a W hS hh hd => giv_run (run_mv rfl (eval_tmp (hh 1 _ rfl (F9.at 1 rfl)))) K3
              · exact asksY rfl fun a W hS hh hd => giv_run (run_sAt (n := 2) rfl (eval_tmp (hd.vl 3 44 (by kernel_rfl) K3)) rfl Tryd.underlying9 rfl (by omega)) K4
              · exact asksY rfl fun a W hS hh hd => giv_run (run_cvI (r := ((bt b 2).toNat : Int)) rfl (eval_tmp (hd.vl 4 45 (by kernel_rfl) K4)) Tryd.underlying5 Tryd.underlying3 (by rw [IntKind.wrap_i64]; omega)) K5
              · exact asksY rfl fun a W hS hh hd => giv_run (run_shl (r := ((256 * (bt b 2).toNat : Nat) : Int)) rfl (eval_tmp (hd.vl 5 46 (by kernel_rfl) K5)) rfl (by omega) (by first | decide | (simp [IntKind.bits]; omega)) (by rw [IntKind.wrap_i64]; simp; omega)) K6
              · exact asksY rfl fun a W hS hh hd => giv_run (run_or (r := (far : Int)) rfl (eval_tmp (hd.vl 2 43 (by kernel_rfl) K2)) (eval_tmp (hd.vl 6 47 (by kernel_rfl) K6)) (by rw [or8 _ _ h1 h2, hfar])) K7
              · exact asksY rfl fun a W hS hh hd => giv_run (run_as rfl (eval_tmp (hd.vl 7 48 (by kernel_rfl) K7))) K8
            · intro a10 w1 hb1 hK
              have e0 := hK.vl 0 41 (by kernel_rfl) K0
              have e1 := hK.vl 1 42 (by kernel_rfl) K1
              have e2 := hK.vl 2 43 (by kernel_rfl) K2
              have e3 := hK.vl 3 44 (by kernel_rfl) K3
              have e4 := hK.vl 4 45 (by kernel_rfl) K4
              have e5 := hK.vl 5 46 (by kernel_rfl) K5
              have e6 := hK.vl 6 47 (by kernel_rfl) K6
              have e7 := hK.vl 7 48 (by kernel_rfl) K7
              have e8 := hK.vl 8 10 (by kernel_rfl) K8
              have F10 : Fr a10 82 [(0, v), (1, (.string ⟨b.toArray⟩)), (2, (.int .i64 (most : Int))), (6, (.slice none 0 0)), (7, (.int .i64 0)), (8, (.int .i64 0)), (10, (.int .i64 (far : Int))), (12, (.string ⟨b.toArray⟩)), (13, (.int .u8 ((bt b 0).toNat : Int))), (14, (.bool false)), (38, (.string ⟨b.toArray⟩)), (39, (.int .i64 (b.length : Int))), (40, (.bool false))] := (hK.fr F9 [_, _, _, _, _, _, _, _, _] ⟨e0, e1, e2, e3, e4, e5, e6, e7, e8, trivial⟩).sub ⟨rfl, rfl, rfl, rfl, rfl, rfl, rfl, rfl, rfl, rfl, rfl, rfl, rfl, trivial⟩
              have M1 := M0.grow hb1
              have hO1 := hO.grow hb1
              clear hK K0 e0 K1 e1 K2 e2 K3 e3 K4 e4 K5 e5 K6 e6 K7 e7 K8 e8
              clear F9 M0
              refine nx ?_
              refine wp_seq ?_
              refine wsl ?_
              refine mvS F10 rfl rfl rfl rfl rfl fun a11 F11 => ?_
              refine sr (v := (.bool false)) F11 (run_eqi rfl (F11.ev 49 rfl) rfl (beq_eq_false_iff_ne.2 (by omega))) rfl rfl rfl fun a12 F12 => ?_
              refine mvS F12 rfl rfl rfl rfl rfl fun a13 F13 => ?_
              refine sq (v := (.int .i64 (far : Int))) F13 (wantedG F13 rfl rfl rfl rfl rfl) (run_mv rfl (F13.ev 10 rfl)) rfl (by decide) fun a14 F14 => ?_
              refine sq (v := v) F14 (wantedG F14 rfl rfl rfl rfl rfl) (run_mv rfl (F14.ev 0 rfl)) rfl (by decide) fun a15 F15 => ?_
              refine sq (v := (.int .i64 (out.length : Int))) F15 (wantedG F15 rfl rfl rfl rfl rfl) (run_lenS rfl (F15.ev 53 rfl) (Sl.own hO1) rfl Tryd.underlying48) rfl (by decide) fun a16 F16 => ?_
              refine sq (v := (.bool false)) F16 (wantedG F16 rfl rfl rfl rfl rfl) (run_gtr rfl (F16.ev 52 rfl) (F16.ev 54 rfl) (decide_eq_false (by omega))) rfl (by decide) fun a17 F17 => ?_
              refine sr (v := (.bool false)) F17 (run_pick rfl (F17.ev 51 rfl) rfl (F17.ev 55 rfl)) rfl rfl rfl fun a18 F18 => ?_
              refine sn ?_
              clear F10 F11 F12 F13 F14 F15 F16 F17
              refine cfs (F18.ev 56 rfl) ?_
              refine wsl ?_
              refine mvS F18 rfl rfl rfl rfl rfl fun a19 F19 => ?_
              refine sr (v := (.int .u8 ((bt b 0).toNat : Int))) F19 (run_sAt (n := 0) rfl (F19.ev 57 rfl) rfl Tryd.underlying9 rfl (by omega)) rfl rfl rfl fun a20 F20 => ?_
              refine sr F20 (run_cvI (r := (c : Int)) rfl (F20.ev 58 rfl) Tryd.underlying5 Tryd.underlying3 (by rw [IntKind.wrap_i64]; omega)) rfl rfl rfl fun a21 F21 => ?_
              refine sr F21 (run_sub (r := ((c - 124 : Nat) : Int)) rfl (F21.ev 59 rfl) rfl (by rw [IntKind.wrap_i64]; omega)) rfl rfl rfl fun a22 F22 => ?_
              refine asS F22 rfl rfl rfl rfl rfl fun a23 F23 => ?_
              refine sn ?_
              clear F18 F19 F20 F21 F22
              refine wp_seq ?_
              refine wsl ?_
              refine mvS F23 rfl rfl rfl rfl rfl fun a24 F24 => ?_
              refine mvS F24 rfl rfl rfl rfl rfl fun a25 F25 => ?_
              refine mvS F25 rfl rfl rfl rfl rfl fun a26 F26 => ?_
              refine sr F26 (run_lenS rfl (F26.ev 63 rfl) (Sl.own hO1) rfl Tryd.underlying48) rfl rfl rfl fun a27 F27 => ?_
              refine sr F27 (run_sub (r := (most : Int) - (out.length : Int)) rfl (F27.ev 62 rfl) (F27.ev 64 rfl) (by rw [IntKind.wrap_i64]; omega)) rfl rfl rfl fun a28 F28 => ?_
              refine sr (v := (.bool true)) F28 (run_gtr rfl (F28.ev 61 rfl) (F28.ev 65 rfl) (decide_eq_true (by omega))) rfl rfl rfl fun a29 F29 => ?_
              refine sn ?_
              clear F23 F24 F25 F26 F27 F28
              refine wp_cond_true (F29.ev 66 rfl) ?_
              refine wsl ?_
              refine sr (v := (.slice none 0 0)) F29 (run_as rfl rfl) rfl rfl rfl fun a30 F30 => ?_
              refine sr (v := (.int .i64 0)) F30 (run_as rfl rfl) rfl rfl rfl fun a31 F31 => ?_
              refine sr (v := (.int .i64 6)) F31 (run_as rfl rfl) rfl rfl rfl fun a32 F32 => ?_
              refine sn ?_
              clear F29 F30 F31
              refine wp_ret ?_
              refine nxRet ?_
              exact ret3 F32 rfl rfl rfl rfl ⟨_, rfl, .slice none 0 0, by first | (rw [hres]; done) | (rw [hres]; rfl), by rw [hres]; exact OwnR.nil _ _ _ _ _, M1⟩
          · have hres : tokS out b (most : Int) = (0, copyS out far (c - 124), 3) := by unfold tokS; rw [hc', if_neg k1, if_neg k2, hfar', if_neg k5, if_neg k6]
            refine walk_enter Tryd.func100 rfl rfl rfl fun a0 F0 => ?_
            have M0 := hM
            refine wsl ?_
            refine sr (v := (.slice none 0 0)) F0 (run_as rfl rfl) rfl rfl rfl fun a1 F1 => ?_
            refine sr (v := (.int .i64 0)) F1 (run_as rfl rfl) rfl rfl rfl fun a2 F2 => ?_
            refine sr (v := (.int .i64 0)) F2 (run_as rfl rfl) rfl rfl rfl fun a3 F3 => ?_
            refine sn ?_
            clear F0 F1 F2
            refine wp_seq ?_
            refine wsl ?_
            refine mvS F3 rfl rfl rfl rfl rfl fun a4 F4 => ?_
            refine sr (v := (.int .u8 ((bt b 0).toNat : Int))) F4 (run_sAt (n := 0) rfl (F4.ev 12 rfl) rfl Tryd.underlying9 rfl (by omega)) rfl rfl rfl fun a5 F5 => ?_
            refine sr (v := (.bool false)) F5 (run_lss rfl (F5.ev 13 rfl) rfl (decide_eq_false (by omega))) rfl rfl rfl fun a6 F6 => ?_
            refine sn ?_
            clear F3 F4 F5
            refine cfs (F6.ev 14 rfl) ?_
            refine wp_seq ?_
            refine wsl ?_
            refine mvS F6 rfl rfl rfl rfl rfl fun a7 F7 => ?_
            refine sr F7 (run_len rfl (F7.ev 38 rfl) rfl Tryd.underlying9) rfl rfl rfl fun a8 F8 => ?_
            refine sr (v := (.bool false)) F8 (run_lss rfl (F8.ev 39 rfl) rfl (decide_eq_false (by omega))) rfl rfl rfl fun a9 F9 => ?_
            refine sn ?_
            clear F6 F7 F8
            refine cfs (F9.ev 40 rfl) ?_
            refine wp_seq ?_
            obtain ⟨KL, hKL⟩ : ∃ KL, KL = [kval (.string ⟨b.toArray⟩), kval (.int .u8 ((bt b 1).toNat : Int)), kval (.int .i64 ((bt b 1).toNat : Int)), kval (.string ⟨b.toArray⟩), kval (.int .u8 ((bt b 2).toNat : Int)), kval (.int .i64 ((bt b 2).toNat : Int)), kval (.int .i64 ((256 * (bt b 2).toNat : Nat) : Int)), kval (.int .i64 (far : Int)), kval (.int .i64 (far : Int))] := ⟨_, rfl⟩
            have K0 := getK hKL 0
            have K1 := getK hKL 1
            have K2 := getK hKL 2
            have K3 := getK hKL 3
            have K4 := getK hKL 4
            have K5 := getK hKL 5
            have K6 := getK hKL 6
            have K7 := getK hKL 7
            have K8 := getK hKL 8
            clear hKL
            refine wp_region_kd 82 (by kernel_rfl) (by kernel_rfl) (by kernel_rfl) F9.size KL ?_ ?_
            · refine ⟨?_, ?_, ?_, ?_, ?_, ?_, ?_, ?_, ?_, trivial⟩
              · exact asksY rfl fun a W hS hh hd => giv_run (run_mv rfl (eval_tmp (hh 1 _ rfl (F9.at 1 rfl)))) K0
              · exact asksY rfl fun a W hS hh hd => giv_run (run_sAt (n := 1) rfl (eval_tmp (hd.vl 0 41 (by kernel_rfl) K0)) rfl Tryd.underlying9 rfl (by omega)) K1
              · exact asksY rfl fun a W hS hh hd => giv_run (run_cvI (r := ((bt b 1).toNat : Int)) rfl (eval_tmp (hd.vl 1 42 (by kernel_rfl) K1)) Tryd.underlying5 Tryd.underlying3 (by rw [IntKind.wrap_i64]; omega)) K2
              · exact asksY rfl fun a W hS hh hd => giv_run (run_mv rfl (eval_tmp (hh 1 _ rfl (F9.at 1 rfl)))) K3
              · exact asksY rfl fun a W hS hh hd => giv_run (run_sAt (n := 2) rfl (eval_tmp (hd.vl 3 44 (by kernel_rfl) K3)) rfl Tryd.underlying9 rfl (by omega)) K4
              · exact asksY rfl fun a W hS hh hd => giv_run (run_cvI (r := ((bt b 2).toNat : Int)) rfl (eval_tmp (hd.vl 4 45 (by kernel_rfl) K4)) Tryd.underlying5 Tryd.underlying3 (by rw [IntKind.wrap_i64]; omega)) K5
              · exact asksY rfl fun a W hS hh hd => giv_run (run_shl (r := ((256 * (bt b 2).toNat : Nat) : Int)) rfl (eval_tmp (hd.vl 5 46 (by kernel_rfl) K5)) rfl (by omega) (by first | decide | (simp [IntKind.bits]; omega)) (by rw [IntKind.wrap_i64]; simp; omega)) K6
              · exact asksY rfl fun a W hS hh hd => giv_run (run_or (r := (far : Int)) rfl (eval_tmp (hd.vl 2 43 (by kernel_rfl) K2)) (eval_tmp (hd.vl 6 47 (by kernel_rfl) K6)) (by rw [or8 _ _ h1 h2, hfar])) K7
              · exact asksY rfl fun a W hS hh hd => giv_run (run_as rfl (eval_tmp (hd.vl 7 48 (by kernel_rfl) K7))) K8
            · intro a10 w1 hb1 hK
              have e0 := hK.vl 0 41 (by kernel_rfl) K0
              have e1 := hK.vl 1 42 (by kernel_rfl) K1
              have e2 := hK.vl 2 43 (by kernel_rfl) K2
              have e3 := hK.vl 3 44 (by kernel_rfl) K3
              have e4 := hK.vl 4 45 (by kernel_rfl) K4
              have e5 := hK.vl 5 46 (by kernel_rfl) K5
              have e6 := hK.vl 6 47 (by kernel_rfl) K6
              have e7 := hK.vl 7 48 (by kernel_rfl) K7
              have e8 := hK.vl 8 10 (by kernel_rfl) K8
              have F10 : Fr a10 82 [(0, v), (1, (.string ⟨b.toArray⟩)), (2, (.int .i64 (most : Int))), (6, (.slice none 0 0)), (7, (.int .i64 0)), (8, (.int .i64 0)), (10, (.int .i64 (far : Int))), (12, (.string ⟨b.toArray⟩)), (13, (.int .u8 ((bt b 0).toNat : Int))), (14, (.bool false)), (38, (.string ⟨b.toArray⟩)), (39, (.int .i64 (b.length : Int))), (40, (.bool false))] := (hK.fr F9 [_, _, _, _, _, _, _, _, _] ⟨e0, e1, e2, e3, e4, e5, e6, e7, e8, trivial⟩).sub ⟨rfl, rfl, rfl, rfl, rfl, rfl, rfl, rfl, rfl, rfl, rfl, rfl, rfl, trivial⟩
              have M1 := M0.grow hb1
              have hO1 := hO.grow hb1
              clear hK K0 e0 K1 e1 K2 e2 K3 e3 K4 e4 K5 e5 K6 e6 K7 e7 K8 e8
              clear F9 M0
              refine nx ?_
              refine wp_seq ?_
              refine wsl ?_
              refine mvS F10 rfl rfl rfl rfl rfl fun a11 F11 => ?_
              refine sr (v := (.bool false)) F11 (run_eqi rfl (F11.ev 49 rfl) rfl (beq_eq_false_iff_ne.2 (by omega))) rfl rfl rfl fun a12 F12 => ?_
              refine mvS F12 rfl rfl rfl rfl rfl fun a13 F13 => ?_
              refine sq (v := (.int .i64 (far : Int))) F13 (wantedG F13 rfl rfl rfl rfl rfl) (run_mv rfl (F13.ev 10 rfl)) rfl (by decide) fun a14 F14 => ?_
              refine sq (v := v) F14 (wantedG F14 rfl rfl rfl rfl rfl) (run_mv rfl (F14.ev 0 rfl)) rfl (by decide) fun a15 F15 => ?_
              refine sq (v := (.int .i64 (out.length : Int))) F15 (wantedG F15 rfl rfl rfl rfl rfl) (run_lenS rfl (F15.ev 53 rfl) (Sl.own hO1) rfl Tryd.underlying48) rfl (by decide) fun a16 F16 => ?_
              refine sq (v := (.bool false)) F16 (wantedG F16 rfl rfl rfl rfl rfl) (run_gtr rfl (F16.ev 52 rfl) (F16.ev 54 rfl) (decide_eq_false (by omega))) rfl (by decide) fun a17 F17 => ?_
              refine sr (v := (.bool false)) F17 (run_pick rfl (F17.ev 51 rfl) rfl (F17.ev 55 rfl)) rfl rfl rfl fun a18 F18 => ?_
              refine sn ?_
              clear F10 F11 F12 F13 F14 F15 F16 F17
              refine cfs (F18.ev 56 rfl) ?_
              refine wsl ?_
              refine mvS F18 rfl rfl rfl rfl rfl fun a19 F19 => ?_
              refine sr (v := (.int .u8 ((bt b 0).toNat : Int))) F19 (run_sAt (n := 0) rfl (F19.ev 57 rfl) rfl Tryd.underlying9 rfl (by omega)) rfl rfl rfl fun a20 F20 => ?_
              refine sr F20 (run_cvI (r := (c : Int)) rfl (F20.ev 58 rfl) Tryd.underlying5 Tryd.underlying3 (by rw [IntKind.wrap_i64]; omega)) rfl rfl rfl fun a21 F21 => ?_
              refine sr F21 (run_sub (r := ((c - 124 : Nat) : Int)) rfl (F21.ev 59 rfl) rfl (by rw [IntKind.wrap_i64]; omega)) rfl rfl rfl fun a22 F22 => ?_
              refine asS F22 rfl rfl rfl rfl rfl fun a23 F23 => ?_
              refine sn ?_
              clear F18 F19 F20 F21 F22
              refine wp_seq ?_
              refine wsl ?_
              refine mvS F23 rfl rfl rfl rfl rfl fun a24 F24 => ?_
              refine mvS F24 rfl rfl rfl rfl rfl fun a25 F25 => ?_
              refine mvS F25 rfl rfl rfl rfl rfl fun a26 F26 => ?_
              refine sr F26 (run_lenS rfl (F26.ev 63 rfl) (Sl.own hO1) rfl Tryd.underlying48) rfl rfl rfl fun a27 F27 => ?_
              refine sr F27 (run_sub (r := (most : Int) - (out.length : Int)) rfl (F27.ev 62 rfl) (F27.ev 64 rfl) (by rw [IntKind.wrap_i64]; omega)) rfl rfl rfl fun a28 F28 => ?_
              refine sr (v := (.bool false)) F28 (run_gtr rfl (F28.ev 61 rfl) (F28.ev 65 rfl) (decide_eq_false (by omega))) rfl rfl rfl fun a29 F29 => ?_
              refine sn ?_
              clear F23 F24 F25 F26 F27 F28
              refine cfs (F29.ev 66 rfl) ?_
              refine wp_seq ?_
              refine wsl ?_
              refine mvS F29 rfl rfl rfl rfl rfl fun a30 F30 => ?_
              refine sr (v := (.int .i64 0)) F30 (run_mv rfl rfl) rfl rfl rfl fun a31 F31 => ?_
              refine sn ?_
              clear F29 F30
              refine wp_block ?_
              refine wkLoop (fun m a w2 => ∃ (i : Nat) (r : Value), i ≤ c - 124 ∧ m = c - 124 - i ∧ OwnR w0 M w2 5 1 r (copyS out far i).length ((copyS out far i).map cb) ∧ Fr a 82 [(0, r), (10, .int .i64 (far : Int)), (67, .int .i64 ((c - 124 : Nat) : Int)), (68, .int .i64 (i : Int))] ∧ Mem w0 M w2) (c - 124) ⟨0, v, Nat.zero_le _, rfl, hO1, F31.sub ⟨rfl, rfl, rfl, rfl, trivial⟩, M1⟩ ?_
              rintro m a0 w1 ⟨i, r, hi, rfl, hO0, F0, M0⟩
              have hcl := copyS_len out far i
              by_cases hlt : i < c - 124
              · obtain ⟨x, hx⟩ : ∃ x, (copyS out far i)[out.length + i - far]? = some x := ⟨_, List.getElem?_eq_getElem (by omega)⟩
                have hst : copyS out far (i + 1) = copyS out far i ++ [x] := by rw [copyS, hcl, List.getD_eq_getElem?_getD, hx]; rfl
                refine wsl ?_
                refine sr (v := (.bool true)) F0 (run_lss rfl (F0.ev 68 rfl) (F0.ev 67 rfl) (decide_eq_true (by omega))) rfl rfl rfl fun a1 F1 => ?_
                refine sn ?_
                clear F0
                refine wp_seq ?_
                refine cts (F1.ev 69 rfl) ?_
                refine wp_seq ?_
                refine wp_block ?_
                refine wp_region_lit ?_
                refine mvS F1 rfl rfl rfl rfl rfl fun a2 F2 => ?_
                refine mvS F2 rfl rfl rfl rfl rfl fun a3 F3 => ?_
                refine mvS F3 rfl rfl rfl rfl rfl fun a4 F4 => ?_
                refine sr F4 (run_lenS rfl (F4.ev 72 rfl) (Sl.own hO0) rfl Tryd.underlying48) rfl rfl rfl fun a5 F5 => ?_
                refine mvS F5 rfl rfl rfl rfl rfl fun a6 F6 => ?_
                refine sr F6 (run_sub (r := ((out.length + i - far : Nat) : Int)) rfl (F6.ev 73 rfl) (F6.ev 74 rfl) (by rw [IntKind.wrap_i64]; omega)) rfl rfl rfl fun a7 F7 => ?_
                refine sr (v := (slPtr r ((out.length + i - far) * 1))) F7 (run_atP (i := (out.length + i - far)) rfl (F7.ev 71 rfl) (F7.ev 75 rfl) rfl (Sl.own hO0) (by omega) elU8.un (by kernel_rfl)) rfl rfl rfl fun a8 F8 => ?_
                refine sr (v := (.int .u8 (x.toNat : Int))) F8 (run_ldP (u := cb x) rfl (F8.ev 76 rfl) (Sl.own hO0) (map_atB hx) (by kernel_rfl)) rfl rfl rfl fun a9 F9 => ?_
                refine sqBytes [x] F9 M0 (wantedS rfl) (run_bytes1 rfl (F9.ev 77 rfl)) rfl (by decide) fun g0 a10 w2 hgg0 hb2 F10 M1 => ?_
                have hO1 := hO0.add (S := isB 5 (cells8 [x])) hb2 hgg0
                refine sqAppendB (l := [x]) (b := (copyS out far i)) F10 M1 hO1 rfl rfl (F10.ev 70 rfl) (F10.ev 78 rfl) rfl (M1.at 0 rfl) (by simp; omega) rfl (by decide) fun v1 a11 w3 hO2 M2 F11 => ?_
                refine asS F11 rfl rfl rfl rfl rfl fun a12 F12 => ?_
                refine sqEnd ?_
                clear F1 F2 F3 F4 F5 F6 F7 F8 F9 F10 F11 M0 M1
                refine bkEnd ?_
                refine nx ?_
                refine wp_region_lit ?_
                refine sr F12 (run_add (r := ((i + 1 : Nat) : Int)) rfl (F12.ev 68 rfl) rfl (by rw [IntKind.wrap_i64]; omega)) rfl rfl rfl fun a13 F13 => ?_
                refine mvS F13 rfl rfl rfl rfl rfl fun a14 F14 => ?_
                refine sn ?_
                clear F12 F13
                exact ⟨_, by omega, i + 1, v1, by omega, rfl, by rw [hst]; exact hO2.sub (.cons _ (.refl _)), F14.sub ⟨rfl, rfl, rfl, rfl, trivial⟩, M2.sub (.cons _ (.refl _))⟩
              · have hie : i = c - 124 := by omega
                rw [hie] at hO0
                refine wsl ?_
                refine sr (v := (.bool false)) F0 (run_lss rfl (F0.ev 68 rfl) (F0.ev 67 rfl) (decide_eq_false (by omega))) rfl rfl rfl fun a1 F1 => ?_
                refine sn ?_
                clear F0
                refine wp_seq ?_
                refine wp_cond_false (F1.ev 69 rfl) ?_
                refine wp_exit ?_
                refine nxExit ?_
                refine nxExit ?_
                refine bkHere ?_
                refine nx ?_
                refine wsl ?_
                refine mvS F1 rfl rfl rfl rfl rfl fun a2 F2 => ?_
                refine asS F2 rfl rfl rfl rfl rfl fun a3 F3 => ?_
                refine sr (v := (.int .i64 3)) F3 (run_as rfl rfl) rfl rfl rfl fun a4 F4 => ?_
                refine sr (v := (.int .i64 0)) F4 (run_as rfl rfl) rfl rfl rfl fun a5 F5 => ?_
                refine sn ?_
                clear F1 F2 F3 F4
                refine wp_ret ?_
                exact ret3 F5 rfl rfl rfl rfl ⟨_, rfl, r, by first | (rw [hres]; done) | (rw [hres]; rfl), by rw [hres]; exact hO0, M0⟩
theorem tokS_grow (out b : List UInt8) (most : Int) (h : (tokS out b most).1 = 0) : (tokS out b most).2.1.length ≤ out.length + 131 * (tokS out b most).2.2 := by
  have h0 := (b.getD 0 0).toNat_lt
  unfold tokS at h ⊢
  repeat' split at h
  all_goals first | (exfalso; revert h; decide) | skip
  all_goals simp only [*, ↓reduceIte]
  · rw [List.length_append, List.length_take]; omega
  · rw [copyS_len]; omega
set_option maxRecDepth 100000 in
set_option maxHeartbeats 1000000 in
theorem zunp_any (b : List UInt8) (most0 : Int) (w : World) (hb : b.length ≤ 2 ^ 32) (hm1 : -9223372036854775808 ≤ most0) (hm2 : most0 ≤ 9223372036854775807) : Calls Tryd.prog 83 #[.string ⟨b.toArray⟩, .int .i64 most0] w fun e w' => e = .returned (.tuple #[.string ⟨(unpS b most0).1.toArray⟩, .int .i64 (unpS b most0).2]) ∧ Below w.heap.size w w' := by
  obtain ⟨most, hmost⟩ : ∃ most : Nat, (most : Int) = max most0 0 := ⟨(max most0 0).toNat, by omega⟩
  have hmm : most ≤ maxLen := by unfold maxLen; omega
  by_cases h1 : most0 < 0
  · by_cases h2 : b.length = 0
    · have hres : unpS b most0 = ([], 6) := by unfold unpS; rw [if_pos ⟨h1, List.length_eq_zero_iff.1 h2⟩]
      refine walk_enter Tryd.func83 rfl rfl rfl fun a0 F0 => ?_
      have M0 := Mem.new w
      refine wsl ?_
      refine sr (v := (.string ⟨List.toArray []⟩)) F0 (run_as rfl rfl) rfl rfl rfl fun a1 F1 => ?_
      refine sr (v := (.int .i64 0)) F1 (run_as rfl rfl) rfl rfl rfl fun a2 F2 => ?_
      refine sn ?_
      clear F0 F1
      refine wp_seq ?_
      refine wsl ?_
      refine mvS F2 rfl rfl rfl rfl rfl fun a3 F3 => ?_
      refine sr (v := (.bool true)) F3 (run_lss rfl (F3.ev 10 rfl) rfl (decide_eq_true (by omega))) rfl rfl rfl fun a4 F4 => ?_
      refine mvS F4 rfl rfl rfl rfl rfl fun a5 F5 => ?_
      refine sq (v := (.string ⟨b.toArray⟩)) F5 (wantedG F5 rfl rfl rfl rfl rfl) (run_mv rfl (F5.ev 0 rfl)) rfl (by decide) fun a6 F6 => ?_
      refine sq (v := (.int .i64 (b.length : Int))) F6 (wantedG F6 rfl rfl rfl rfl rfl) (run_len rfl (F6.ev 13 rfl) rfl Tryd.underlying9) rfl (by decide) fun a7 F7 => ?_
      refine sq (v := (.bool true)) F7 (wantedG F7 rfl rfl rfl rfl rfl) (run_eqi rfl (F7.ev 14 rfl) rfl (beq_iff_eq.2 (by omega))) rfl (by decide) fun a8 F8 => ?_
      refine sr (v := (.bool true)) F8 (run_pick rfl (F8.ev 12 rfl) (F8.ev 15 rfl) rfl) rfl rfl rfl fun a9 F9 => ?_
      refine sn ?_
      clear F2 F3 F4 F5 F6 F7 F8
      refine wp_cond_true (F9.ev 16 rfl) ?_
      refine wsl ?_
      refine sr (v := (.string ⟨List.toArray []⟩)) F9 (run_as rfl rfl) rfl rfl rfl fun a10 F10 => ?_
      refine sr (v := (.int .i64 6)) F10 (run_as rfl rfl) rfl rfl rfl fun a11 F11 => ?_
      refine sn ?_
      clear F9 F10
      refine wp_ret ?_
      refine nxRet ?_
      exact ret2 F11 rfl rfl rfl ⟨by rw [hres], M0.below⟩
    · have hS : unpS b most0 = unpT [] b (most : Int) := by unfold unpS; rw [if_neg (fun h => h2 (by rw [h.2]; rfl)), hmost]
      refine walk_enter Tryd.func83 rfl rfl rfl fun a0 F0 => ?_
      have M0 := Mem.new w
      refine wsl ?_
      refine sr (v := (.string ⟨List.toArray []⟩)) F0 (run_as rfl rfl) rfl rfl rfl fun a1 F1 => ?_
      refine sr (v := (.int .i64 0)) F1 (run_as rfl rfl) rfl rfl rfl fun a2 F2 => ?_
      refine sn ?_
      clear F0 F1
      refine wp_seq ?_
      refine wsl ?_
      refine mvS F2 rfl rfl rfl rfl rfl fun a3 F3 => ?_
      refine sr (v := (.bool true)) F3 (run_lss rfl (F3.ev 10 rfl) rfl (decide_eq_true (by omega))) rfl rfl rfl fun a4 F4 => ?_
      refine mvS F4 rfl rfl rfl rfl rfl fun a5 F5 => ?_
      refine sq (v := (.string ⟨b.toArray⟩)) F5 (wantedG F5 rfl rfl rfl rfl rfl) (run_mv rfl (F5.ev 0 rfl)) rfl (by decide) fun a6 F6 => ?_
      refine sq (v := (.int .i64 (b.length : Int))) F6 (wantedG F6 rfl rfl rfl rfl rfl) (run_len rfl (F6.ev 13 rfl) rfl Tryd.underlying9) rfl (by decide) fun a7 F7 => ?_
      refine sq (v := (.bool false)) F7 (wantedG F7 rfl rfl rfl rfl rfl) (run_eqi rfl (F7.ev 14 rfl) rfl (beq_eq_false_iff_ne.2 (by omega))) rfl (by decide) fun a8 F8 => ?_
      refine sr (v := (.bool false)) F8 (run_pick rfl (F8.ev 12 rfl) (F8.ev 15 rfl) rfl) rfl rfl rfl fun a9 F9 => ?_
      refine sn ?_
      clear F2 F3 F4 F5 F6 F7 F8
      refine cfs (F9.ev 16 rfl) ?_
      refine wsl ?_
      refine sr (v := (.slice none 0 0)) F9 (run_as rfl rfl) rfl rfl rfl fun a10 F10 => ?_
      refine sn ?_
      clear F9
      refine wsl ?_
      refine mvS F10 rfl rfl rfl rfl rfl fun a11 F11 => ?_
      refine sr (v := (.int .i64 (most : Int))) F11 (run_max2 (r := (most : Int)) rfl (F11.ev 17 rfl) rfl (by split <;> omega)) rfl rfl rfl fun a12 F12 => ?_
      refine asS F12 rfl rfl rfl rfl rfl fun a13 F13 => ?_
      refine sn ?_
      clear F10 F11 F12
      refine wp_seq ?_
      refine wp_block ?_
      have hN := OwnR.nil w w [] 5 1
      refine wkLoop (fun m a w2 => ∃ (o2 b2 : List UInt8) (r : Value), m = b2.length ∧ unpT o2 b2 (most : Int) = unpT [] b (most : Int) ∧ o2.length + 131 * b2.length ≤ 131 * b.length ∧ OwnR w [] w2 5 1 r o2.length (o2.map cb) ∧ Fr a 39 [(0, .string ⟨b2.toArray⟩), (1, .int .i64 (most : Int)), (6, r)] ∧ Mem w [] w2) b.length ⟨[], b, .slice none 0 0, rfl, rfl, by simp, hN, F13.sub ⟨rfl, rfl, rfl, trivial⟩, M0⟩ ?_
      rintro m a0 w1 ⟨o2, b2, r, rfl, he, hlen2, hO0, F0, M0⟩
      by_cases hlt : 0 < b2.length
      · have hne : b2 ≠ [] := List.length_pos_iff.1 hlt
        rw [unpT_step _ _ hne] at he
        by_cases hk : (tokS o2 b2 (most : Int)).1 = 0
        · rw [if_neg (fun h => h hk)] at he
          have hu := tokS_used _ _ _ hk
          have hg := tokS_grow _ _ _ hk
          obtain ⟨q, hq⟩ : ∃ q, (tokS o2 b2 (most : Int)).2.2 = q := ⟨_, rfl⟩
          rw [hq] at he hu hg
          refine wp_seq ?_
          refine wsl ?_
          refine mvS F0 rfl rfl rfl rfl rfl fun a1 F1 => ?_
          refine sr F1 (run_len rfl (F1.ev 19 rfl) rfl Tryd.underlying9) rfl rfl rfl fun a2 F2 => ?_
          refine sr (v := (.bool true)) F2 (run_gtr rfl (F2.ev 20 rfl) rfl (decide_eq_true (by omega))) rfl rfl rfl fun a3 F3 => ?_
          refine sn ?_
          clear F0 F1 F2
          refine cts (F3.ev 21 rfl) ?_
          refine wp_block ?_
          refine wsl ?_
          refine mvS F3 rfl rfl rfl rfl rfl fun a4 F4 => ?_
          refine mvS F4 rfl rfl rfl rfl rfl fun a5 F5 => ?_
          refine mvS F5 rfl rfl rfl rfl rfl fun a6 F6 => ?_
          refine sqT (T := fun r wx => ∃ u, r = .tuple #[u, .int .i64 ((tokS o2 b2 (most : Int)).2.2 : Int), .int .i64 (tokS o2 b2 (most : Int)).1] ∧ OwnR w [] wx 5 1 u (tokS o2 b2 (most : Int)).2.1.length ((tokS o2 b2 (most : Int)).2.1.map cb) ∧ Mem w [] wx) F6 (wantedS rfl) (run_call rfl Tryd.func100 (by kernel_rfl) rfl (mapE3 (F6.ev 23 rfl) (F6.ev 24 rfl) (F6.ev 25 rfl))) rfl (by decide) (ztok_any o2 b2 most _ _ _ _ M0 hO0 (by omega) (by omega) (by omega) hmm) fun u0 a7 w2 hT2 F7 => ?_
          obtain ⟨v1, rfl, hO1, M1⟩ := hT2
          refine mvS F7 rfl rfl rfl rfl rfl fun a8 F8 => ?_
          refine sr (v := v1) F8 (run_ext rfl (F8.ev 22 rfl) rfl) rfl rfl rfl fun a9 F9 => ?_
          refine sr (v := (.int .i64 ((tokS o2 b2 (most : Int)).2.2 : Int))) F9 (run_ext rfl (F9.ev 22 rfl) rfl) rfl rfl rfl fun a10 F10 => ?_
          refine sr (v := (.int .i64 ((tokS o2 b2 (most : Int)).1))) F10 (run_ext rfl (F10.ev 22 rfl) rfl) rfl rfl rfl fun a11 F11 => ?_
          refine asS F11 rfl rfl rfl rfl rfl fun a12 F12 => ?_
          refine asS F12 rfl rfl rfl rfl rfl fun a13 F13 => ?_
          refine asS F13 rfl rfl rfl rfl rfl fun a14 F14 => ?_
          refine sn ?_
          clear F3 F4 F5 F6 F7 F8 F9 F10 F11 F12 F13 M0
          refine wp_seq ?_
          refine wsl ?_
          refine mvS F14 rfl rfl rfl rfl rfl fun a15 F15 => ?_
          refine sr (v := (.bool false)) F15 (run_nei rfl (F15.ev 30 rfl) rfl (bne_eq_false_iff_eq.2 (by omega))) rfl rfl rfl fun a16 F16 => ?_
          refine sn ?_
          clear F14 F15
          refine cfs (F16.ev 31 rfl) ?_
          obtain ⟨KL, hKL⟩ : ∃ KL, KL = [kval v1, kval (.string ⟨b2.toArray⟩), kval (.int .i64 ((tokS o2 b2 (most : Int)).2.2 : Int)), kval (.string ⟨(b2.drop q).toArray⟩), kval v1] := ⟨_, rfl⟩
          have K0 := getK hKL 0
          have K1 := getK hKL 1
          have K2 := getK hKL 2
          have K3 := getK hKL 3
          have K4 := getK hKL 4
          have HKL : KL.length ≤ 5 := by rw [hKL]; exact Nat.le_refl _
          clear hKL
          refine wp_region_kdTail2 39 5 (by kernel_rfl) (by kernel_rfl) (by kernel_rfl) (by kernel_rfl) F16.size KL HKL ?_ ?_
          · refine ⟨?_, ?_, ?_, ?_, ?_, trivial⟩
            · exact asksHY rfl fun a W hS hh hd => giv_run (run_mv rfl (eval_tmp (hh 7 _ rfl (F16.at 7 rfl)))) K0
            · exact asksHY rfl fun a W hS hh hd => giv_run (run_mv rfl (eval_tmp (hh 0 _ rfl (F16.at 0 rfl)))) K1
            · exact asksHY rfl fun a W hS hh hd => giv_run (run_mv rfl (eval_tmp (hh 8 _ rfl (F16.at 8 rfl)))) K2
            · exact asksHY rfl fun a W hS hh hd => giv_run (run_sFrom (m := q) rfl (eval_tmp (hd.vl 1 34 (by kernel_rfl) K1)) (eval_tmp (hd.vl 2 35 (by kernel_rfl) K2)) Tryd.underlying9 (by omega) (by omega)) K3
            · exact asksHY rfl fun a W hS hh hd => giv_run (run_as rfl (eval_tmp (hd.vl 0 33 (by kernel_rfl) K0))) K4
          · intro a17 w3 hb3 hK
            have e0 := hK.hvl 0 33 rfl (by kernel_rfl) K0
            have e1 := hK.hvl 1 34 rfl (by kernel_rfl) K1
            have e2 := hK.hvl 2 35 rfl (by kernel_rfl) K2
            have e3 := hK.hvl 3 36 rfl (by kernel_rfl) K3
            have e4 := hK.hvl 4 6 rfl (by kernel_rfl) K4
            have F17 : Fr a17 39 [(0, (.string ⟨b2.toArray⟩)), (1, (.int .i64 (most : Int))), (6, v1), (7, v1), (8, (.int .i64 ((tokS o2 b2 (most : Int)).2.2 : Int))), (9, (.int .i64 ((tokS o2 b2 (most : Int)).1))), (19, (.string ⟨b2.toArray⟩)), (20, (.int .i64 (b2.length : Int))), (21, (.bool true)), (22, (.tuple #[v1, (.int .i64 ((tokS o2 b2 (most : Int)).2.2 : Int)), (.int .i64 ((tokS o2 b2 (most : Int)).1))])), (23, r), (24, (.string ⟨b2.toArray⟩)), (25, (.int .i64 (most : Int))), (26, (.tuple #[v1, (.int .i64 ((tokS o2 b2 (most : Int)).2.2 : Int)), (.int .i64 ((tokS o2 b2 (most : Int)).1))])), (27, v1), (28, (.int .i64 ((tokS o2 b2 (most : Int)).2.2 : Int))), (29, (.int .i64 ((tokS o2 b2 (most : Int)).1))), (30, (.int .i64 ((tokS o2 b2 (most : Int)).1))), (31, (.bool false)), (36, (.string ⟨(b2.drop q).toArray⟩))] := (hK.hfr F16 [_, _, _, _, _] ⟨e0, e1, e2, e3, e4, trivial⟩).sub ⟨rfl, rfl, rfl, rfl, rfl, rfl, rfl, rfl, rfl, rfl, rfl, rfl, rfl, rfl, rfl, rfl, rfl, rfl, rfl, rfl, trivial⟩
            have M2 := M1.grow hb3
            have hO2 := hO1.grow hb3
            clear hK K0 e0 K1 e1 K2 e2 K3 e3 K4 e4 HKL
            simp only [List.drop_succ_cons, List.drop_zero]
            refine asS F17 rfl rfl rfl rfl rfl fun a18 F18 => ?_
            refine sqEnd ?_
            clear F16 F17 M1
            refine bkEnd ?_
            refine nx ?_
            exact ⟨_, by rw [List.length_drop]; omega, _, b2.drop q, v1, rfl, he, by rw [List.length_drop]; omega, hO2, F18.sub ⟨rfl, rfl, rfl, trivial⟩, M2⟩
        · rw [if_pos hk] at he
          have hres : unpS b most0 = ([], (tokS o2 b2 (most : Int)).1) := by rw [hS, ← he]
          refine wp_seq ?_
          refine wsl ?_
          refine mvS F0 rfl rfl rfl rfl rfl fun a1 F1 => ?_
          refine sr F1 (run_len rfl (F1.ev 19 rfl) rfl Tryd.underlying9) rfl rfl rfl fun a2 F2 => ?_
          refine sr (v := (.bool true)) F2 (run_gtr rfl (F2.ev 20 rfl) rfl (decide_eq_true (by omega))) rfl rfl rfl fun a3 F3 => ?_
          refine sn ?_
          clear F0 F1 F2
          refine cts (F3.ev 21 rfl) ?_
          refine wp_block ?_
          refine wsl ?_
          refine mvS F3 rfl rfl rfl rfl rfl fun a4 F4 => ?_
          refine mvS F4 rfl rfl rfl rfl rfl fun a5 F5 => ?_
          refine mvS F5 rfl rfl rfl rfl rfl fun a6 F6 => ?_
          refine sqT (T := fun r wx => ∃ u, r = .tuple #[u, .int .i64 ((tokS o2 b2 (most : Int)).2.2 : Int), .int .i64 (tokS o2 b2 (most : Int)).1] ∧ OwnR w [] wx 5 1 u (tokS o2 b2 (most : Int)).2.1.length ((tokS o2 b2 (most : Int)).2.1.map cb) ∧ Mem w [] wx) F6 (wantedS rfl) (run_call rfl Tryd.func100 (by kernel_rfl) rfl (mapE3 (F6.ev 23 rfl) (F6.ev 24 rfl) (F6.ev 25 rfl))) rfl (by decide) (ztok_any o2 b2 most _ _ _ _ M0 hO0 (by omega) (by omega) (by omega) hmm) fun u2 a7 w2 hT2 F7 => ?_
          obtain ⟨v3, rfl, hO1, M1⟩ := hT2
          refine mvS F7 rfl rfl rfl rfl rfl fun a8 F8 => ?_
          refine sr (v := v3) F8 (run_ext rfl (F8.ev 22 rfl) rfl) rfl rfl rfl fun a9 F9 => ?_
          refine sr (v := (.int .i64 ((tokS o2 b2 (most : Int)).2.2 : Int))) F9 (run_ext rfl (F9.ev 22 rfl) rfl) rfl rfl rfl fun a10 F10 => ?_
          refine sr (v := (.int .i64 ((tokS o2 b2 (most : Int)).1))) F10 (run_ext rfl (F10.ev 22 rfl) rfl) rfl rfl rfl fun a11 F11 => ?_
          refine asS F11 rfl rfl rfl rfl rfl fun a12 F12 => ?_
          refine asS F12 rfl rfl rfl rfl rfl fun a13 F13 => ?_
          refine asS F13 rfl rfl rfl rfl rfl fun a14 F14 => ?_
          refine sn ?_
          clear F3 F4 F5 F6 F7 F8 F9 F10 F11 F12 F13 M0
          refine wp_seq ?_
          refine wsl ?_
          refine mvS F14 rfl rfl rfl rfl rfl fun a15 F15 => ?_
          refine sr (v := (.bool true)) F15 (run_nei rfl (F15.ev 30 rfl) rfl (bne_iff_ne.2 (by omega))) rfl rfl rfl fun a16 F16 => ?_
          refine sn ?_
          clear F14 F15
          refine wp_cond_true (F16.ev 31 rfl) ?_
          refine wsl ?_
          refine mvS F16 rfl rfl rfl rfl rfl fun a17 F17 => ?_
          refine sr (v := (.string ⟨List.toArray []⟩)) F17 (run_as rfl rfl) rfl rfl rfl fun a18 F18 => ?_
          refine asS F18 rfl rfl rfl rfl rfl fun a19 F19 => ?_
          refine sn ?_
          clear F16 F17 F18
          refine wp_ret ?_
          refine nxRet ?_
          refine bkRet ?_
          refine nxRet ?_
          refine bkRet ?_
          refine nxRet ?_
          exact ret2 F19 rfl rfl rfl ⟨by rw [hres], M1.below⟩
      · have he0 : b2 = [] := List.length_eq_zero_iff.1 (by omega)
        have hres : unpS b most0 = (o2, 0) := by rw [hS, ← he, he0, unpT_nil]
        refine wp_seq ?_
        refine wsl ?_
        refine mvS F0 rfl rfl rfl rfl rfl fun a1 F1 => ?_
        refine sr F1 (run_len rfl (F1.ev 19 rfl) rfl Tryd.underlying9) rfl rfl rfl fun a2 F2 => ?_
        refine sr (v := (.bool false)) F2 (run_gtr rfl (F2.ev 20 rfl) rfl (decide_eq_false (by omega))) rfl rfl rfl fun a3 F3 => ?_
        refine sn ?_
        clear F0 F1 F2
        refine wp_cond_false (F3.ev 21 rfl) ?_
        refine wp_exit ?_
        refine nxExit ?_
        refine nxExit ?_
        refine bkHere ?_
        refine nx ?_
        refine wsl ?_
        refine mvS F3 rfl rfl rfl rfl rfl fun a4 F4 => ?_
        refine sr (v := (.string ⟨o2.toArray⟩)) F4 (run_strO hO0 rfl (F4.ev 37 rfl)) rfl rfl rfl fun a5 F5 => ?_
        refine asS F5 rfl rfl rfl rfl rfl fun a6 F6 => ?_
        refine sr (v := (.int .i64 0)) F6 (run_as rfl rfl) rfl rfl rfl fun a7 F7 => ?_
        refine sn ?_
        clear F3 F4 F5 F6
        refine wp_ret ?_
        exact ret2 F7 rfl rfl rfl ⟨by rw [hres], M0.below⟩
  · have hS : unpS b most0 = unpT [] b (most : Int) := by unfold unpS; rw [if_neg (fun h => h1 h.1), hmost]
    refine walk_enter Tryd.func83 rfl rfl rfl fun a0 F0 => ?_
    have M0 := Mem.new w
    refine wsl ?_
    refine sr (v := (.string ⟨List.toArray []⟩)) F0 (run_as rfl rfl) rfl rfl rfl fun a1 F1 => ?_
    refine sr (v := (.int .i64 0)) F1 (run_as rfl rfl) rfl rfl rfl fun a2 F2 => ?_
    refine sn ?_
    clear F0 F1
    refine wp_seq ?_
    refine wsl ?_
    refine mvS F2 rfl rfl rfl rfl rfl fun a3 F3 => ?_
    refine sr (v := (.bool false)) F3 (run_lss rfl (F3.ev 10 rfl) rfl (decide_eq_false (by omega))) rfl rfl rfl fun a4 F4 => ?_
    refine mvS F4 rfl rfl rfl rfl rfl fun a5 F5 => ?_
    refine sqSkip F5 (unwantedG F5 rfl rfl rfl rfl rfl) rfl (by decide) fun a6 F6 => ?_
    refine sqSkip F6 (unwantedG F6 rfl rfl rfl rfl rfl) rfl (by decide) fun a7 F7 => ?_
    refine sqSkip F7 (unwantedG F7 rfl rfl rfl rfl rfl) rfl (by decide) fun a8 F8 => ?_
    refine sr (v := (.bool false)) F8 (run_pick rfl (F8.ev 12 rfl) (F8.ev 15 rfl) rfl) rfl rfl rfl fun a9 F9 => ?_
    refine sn ?_
    clear F2 F3 F4 F5 F6 F7 F8
    refine cfs (F9.ev 16 rfl) ?_
    refine wsl ?_
    refine sr (v := (.slice none 0 0)) F9 (run_as rfl rfl) rfl rfl rfl fun a10 F10 => ?_
    refine sn ?_
    clear F9
    refine wsl ?_
    refine mvS F10 rfl rfl rfl rfl rfl fun a11 F11 => ?_
    refine sr (v := (.int .i64 (most : Int))) F11 (run_max2 (r := (most : Int)) rfl (F11.ev 17 rfl) rfl (by split <;> omega)) rfl rfl rfl fun a12 F12 => ?_
    refine asS F12 rfl rfl rfl rfl rfl fun a13 F13 => ?_
    refine sn ?_
    clear F10 F11 F12
    refine wp_seq ?_
    refine wp_block ?_
    have hN := OwnR.nil w w [] 5 1
    refine wkLoop (fun m a w2 => ∃ (o2 b2 : List UInt8) (r : Value), m = b2.length ∧ unpT o2 b2 (most : Int) = unpT [] b (most : Int) ∧ o2.length + 131 * b2.length ≤ 131 * b.length ∧ OwnR w [] w2 5 1 r o2.length (o2.map cb) ∧ Fr a 39 [(0, .string ⟨b2.toArray⟩), (1, .int .i64 (most : Int)), (6, r)] ∧ Mem w [] w2) b.length ⟨[], b, .slice none 0 0, rfl, rfl, by simp, hN, F13.sub ⟨rfl, rfl, rfl, trivial⟩, M0⟩ ?_
    rintro m a0 w1 ⟨o2, b2, r, rfl, he, hlen2, hO0, F0, M0⟩
    by_cases hlt : 0 < b2.length
    · have hne : b2 ≠ [] := List.length_pos_iff.1 hlt
      rw [unpT_step _ _ hne] at he
      by_cases hk : (tokS o2 b2 (most : Int)).1 = 0
      · rw [if_neg (fun h => h hk)] at he
        have hu := tokS_used _ _ _ hk
        have hg := tokS_grow _ _ _ hk
        obtain ⟨q, hq⟩ : ∃ q, (tokS o2 b2 (most : Int)).2.2 = q := ⟨_, rfl⟩
        rw [hq] at he hu hg
        refine wp_seq ?_
        refine wsl ?_
        refine mvS F0 rfl rfl rfl rfl rfl fun a1 F1 => ?_
        refine sr F1 (run_len rfl (F1.ev 19 rfl) rfl Tryd.underlying9) rfl rfl rfl fun a2 F2 => ?_
        refine sr (v := (.bool true)) F2 (run_gtr rfl (F2.ev 20 rfl) rfl (decide_eq_true (by omega))) rfl rfl rfl fun a3 F3 => ?_
        refine sn ?_
        clear F0 F1 F2
        refine cts (F3.ev 21 rfl) ?_
        refine wp_block ?_
        refine wsl ?_
        refine mvS F3 rfl rfl rfl rfl rfl fun a4 F4 => ?_
        refine mvS F4 rfl rfl rfl rfl rfl fun a5 F5 => ?_
        refine mvS F5 rfl rfl rfl rfl rfl fun a6 F6 => ?_
        refine sqT (T := fun r wx => ∃ u, r = .tuple #[u, .int .i64 ((tokS o2 b2 (most : Int)).2.2 : Int), .int .i64 (tokS o2 b2 (most : Int)).1] ∧ OwnR w [] wx 5 1 u (tokS o2 b2 (most : Int)).2.1.length ((tokS o2 b2 (most : Int)).2.1.map cb) ∧ Mem w [] wx) F6 (wantedS rfl) (run_call rfl Tryd.func100 (by kernel_rfl) rfl (mapE3 (F6.ev 23 rfl) (F6.ev 24 rfl) (F6.ev 25 rfl))) rfl (by decide) (ztok_any o2 b2 most _ _ _ _ M0 hO0 (by omega) (by omega) (by omega) hmm) fun u0 a7 w2 hT2 F7 => ?_
        obtain ⟨v1, rfl, hO1, M1⟩ := hT2
        refine mvS F7 rfl rfl rfl rfl rfl fun a8 F8 => ?_
        refine sr (v := v1) F8 (run_ext rfl (F8.ev 22 rfl) rfl) rfl rfl rfl fun a9 F9 => ?_
        refine sr (v := (.int .i64 ((tokS o2 b2 (most : Int)).2.2 : Int))) F9 (run_ext rfl (F9.ev 22 rfl) rfl) rfl rfl rfl fun a10 F10 => ?_
        refine sr (v := (.int .i64 ((tokS o2 b2 (most : Int)).1))) F10 (run_ext rfl (F10.ev 22 rfl) rfl) rfl rfl rfl fun a11 F11 => ?_
        refine asS F11 rfl rfl rfl rfl rfl fun a12 F12 => ?_
        refine asS F12 rfl rfl rfl rfl rfl fun a13 F13 => ?_
        refine asS F13 rfl rfl rfl rfl rfl fun a14 F14 => ?_
        refine sn ?_
        clear F3 F4 F5 F6 F7 F8 F9 F10 F11 F12 F13 M0
        refine wp_seq ?_
        refine wsl ?_
        refine mvS F14 rfl rfl rfl rfl rfl fun a15 F15 => ?_
        refine sr (v := (.bool false)) F15 (run_nei rfl (F15.ev 30 rfl) rfl (bne_eq_false_iff_eq.2 (by omega))) rfl rfl rfl fun a16 F16 => ?_
        refine sn ?_
        clear F14 F15
        refine cfs (F16.ev 31 rfl) ?_
        obtain ⟨KL, hKL⟩ : ∃ KL, KL = [kval v1, kval (.string ⟨b2.toArray⟩), kval (.int .i64 ((tokS o2 b2 (most : Int)).2.2 : Int)), kval (.string ⟨(b2.drop q).toArray⟩), kval v1] := ⟨_, rfl⟩
        have K0 := getK hKL 0
        have K1 := getK hKL 1
        have K2 := getK hKL 2
        have K3 := getK hKL 3
        have K4 := getK hKL 4
        have HKL : KL.length ≤ 5 := by rw [hKL]; exact Nat.le_refl _
        clear hKL
        refine wp_region_kdTail2 39 5 (by kernel_rfl) (by kernel_rfl) (by kernel_rfl) (by kernel_rfl) F16.size KL HKL ?_ ?_
        · refine ⟨?_, ?_, ?_, ?_, ?_, trivial⟩
          · exact asksHY rfl fun a W hS hh hd => giv_run (run_mv rfl (eval_tmp (hh 7 _ rfl (F16.at 7 rfl)))) K0
          · exact asksHY rfl fun a W hS hh hd => giv_run (run_mv rfl (eval_tmp (hh 0 _ rfl (F16.at 0 rfl)))) K1
          · exact asksHY rfl fun a W hS hh hd => giv_run (run_mv rfl (eval_tmp (hh 8 _ rfl (F16.at 8 rfl)))) K2
          · exact asksHY rfl fun a W hS hh hd => giv_run (run_sFrom (m := q) rfl (eval_tmp (hd.vl 1 34 (by kernel_rfl) K1)) (eval_tmp (hd.vl 2 35 (by kernel_rfl) K2)) Tryd.underlying9 (by omega) (by omega)) K3
          · exact asksHY rfl fun a W hS hh hd => giv_run (run_as rfl (eval_tmp (hd.vl 0 33 (by kernel_rfl) K0))) K4
        · intro a17 w3 hb3 hK
          have e0 := hK.hvl 0 33 rfl (by kernel_rfl) K0
          have e1 := hK.hvl 1 34 rfl (by kernel_rfl) K1
          have e2 := hK.hvl 2 35 rfl (by kernel_rfl) K2
          have e3 := hK.hvl 3 36 rfl (by kernel_rfl) K3
          have e4 := hK.hvl 4 6 rfl (by kernel_rfl) K4
          have F17 : Fr a17 39 [(0, (.string ⟨b2.toArray⟩)), (1, (.int .i64 (most : Int))), (6, v1), (7, v1), (8, (.int .i64 ((tokS o2 b2 (most : Int)).2.2 : Int))), (9, (.int .i64 ((tokS o2 b2 (most : Int)).1))), (19, (.string ⟨b2.toArray⟩)), (20, (.int .i64 (b2.length : Int))), (21, (.bool true)), (22, (.tuple #[v1, (.int .i64 ((tokS o2 b2 (most : Int)).2.2 : Int)), (.int .i64 ((tokS o2 b2 (most : Int)).1))])), (23, r), (24, (.string ⟨b2.toArray⟩)), (25, (.int .i64 (most : Int))), (26, (.tuple #[v1, (.int .i64 ((tokS o2 b2 (most : Int)).2.2 : Int)), (.int .i64 ((tokS o2 b2 (most : Int)).1))])), (27, v1), (28, (.int .i64 ((tokS o2 b2 (most : Int)).2.2 : Int))), (29, (.int .i64 ((tokS o2 b2 (most : Int)).1))), (30, (.int .i64 ((tokS o2 b2 (most : Int)).1))), (31, (.bool false)), (36, (.string ⟨(b2.drop q).toArray⟩))] := (hK.hfr F16 [_, _, _, _, _] ⟨e0, e1, e2, e3, e4, trivial⟩).sub ⟨rfl, rfl, rfl, rfl, rfl, rfl, rfl, rfl, rfl, rfl, rfl, rfl, rfl, rfl, rfl, rfl, rfl, rfl, rfl, rfl, trivial⟩
          have M2 := M1.grow hb3
          have hO2 := hO1.grow hb3
          clear hK K0 e0 K1 e1 K2 e2 K3 e3 K4 e4 HKL
          simp only [List.drop_succ_cons, List.drop_zero]
          refine asS F17 rfl rfl rfl rfl rfl fun a18 F18 => ?_
          refine sqEnd ?_
          clear F16 F17 M1
          refine bkEnd ?_
          refine nx ?_
          exact ⟨_, by rw [List.length_drop]; omega, _, b2.drop q, v1, rfl, he, by rw [List.length_drop]; omega, hO2, F18.sub ⟨rfl, rfl, rfl, trivial⟩, M2⟩
      · rw [if_pos hk] at he
        have hres : unpS b most0 = ([], (tokS o2 b2 (most : Int)).1) := by rw [hS, ← he]
        refine wp_seq ?_
        refine wsl ?_
        refine mvS F0 rfl rfl rfl rfl rfl fun a1 F1 => ?_
        refine sr F1 (run_len rfl (F1.ev 19 rfl) rfl Tryd.underlying9) rfl rfl rfl fun a2 F2 => ?_
        refine sr (v := (.bool true)) F2 (run_gtr rfl (F2.ev 20 rfl) rfl (decide_eq_true (by omega))) rfl rfl rfl fun a3 F3 => ?_
        refine sn ?_
        clear F0 F1 F2
        refine cts (F3.ev 21 rfl) ?_
        refine wp_block ?_
        refine wsl ?_
        refine mvS F3 rfl rfl rfl rfl rfl fun a4 F4 => ?_
        refine mvS F4 rfl rfl rfl rfl rfl fun a5 F5 => ?_
        refine mvS F5 rfl rfl rfl rfl rfl fun a6 F6 => ?_
        refine sqT (T := fun r wx => ∃ u, r = .tuple #[u, .int .i64 ((tokS o2 b2 (most : Int)).2.2 : Int), .int .i64 (tokS o2 b2 (most : Int)).1] ∧ OwnR w [] wx 5 1 u (tokS o2 b2 (most : Int)).2.1.length ((tokS o2 b2 (most : Int)).2.1.map cb) ∧ Mem w [] wx) F6 (wantedS rfl) (run_call rfl Tryd.func100 (by kernel_rfl) rfl (mapE3 (F6.ev 23 rfl) (F6.ev 24 rfl) (F6.ev 25 rfl))) rfl (by decide) (ztok_any o2 b2 most _ _ _ _ M0 hO0 (by omega) (by omega) (by omega) hmm) fun u2 a7 w2 hT2 F7 => ?_
        obtain ⟨v3, rfl, hO1, M1⟩ := hT2
        refine mvS F7 rfl rfl rfl rfl rfl fun a8 F8 => ?_
        refine sr (v := v3) F8 (run_ext rfl (F8.ev 22 rfl) rfl) rfl rfl rfl fun a9 F9 => ?_
        refine sr (v := (.int .i64 ((tokS o2 b2 (most : Int)).2.2 : Int))) F9 (run_ext rfl (F9.ev 22 rfl) rfl) rfl rfl rfl fun a10 F10 => ?_
        refine sr (v := (.int .i64 ((tokS o2 b2 (most : Int)).1))) F10 (run_ext rfl (F10.ev 22 rfl) rfl) rfl rfl rfl fun a11 F11 => ?_
        refine asS F11 rfl rfl rfl rfl rfl fun a12 F12 => ?_
        refine asS F12 rfl rfl rfl rfl rfl fun a13 F13 => ?_
        refine asS F13 rfl rfl rfl rfl rfl fun a14 F14 => ?_
        refine sn ?_
        clear F3 F4 F5 F6 F7 F8 F9 F10 F11 F12 F13 M0
        refine wp_seq ?_
        refine wsl ?_
        refine mvS F14 rfl rfl rfl rfl rfl fun a15 F15 => ?_
        refine sr (v := (.bool true)) F15 (run_nei rfl (F15.ev 30 rfl) rfl (bne_iff_ne.2 (by omega))) rfl rfl rfl fun a16 F16 => ?_
        refine sn ?_
        clear F14 F15
        refine wp_cond_true (F16.ev 31 rfl) ?_
        refine wsl ?_
        refine mvS F16 rfl rfl rfl rfl rfl fun a17 F17 => ?_
        refine sr (v := (.string ⟨List.toArray []⟩)) F17 (run_as rfl rfl) rfl rfl rfl fun a18 F18 => ?_
        refine asS F18 rfl rfl rfl rfl rfl fun a19 F19 => ?_
        refine sn ?_
        clear F16 F17 F18
        refine wp_ret ?_
        refine nxRet ?_
        refine bkRet ?_
        refine nxRet ?_
        refine bkRet ?_
        refine nxRet ?_
        exact ret2 F19 rfl rfl rfl ⟨by rw [hres], M1.below⟩
    · have he0 : b2 = [] := List.length_eq_zero_iff.1 (by omega)
      have hres : unpS b most0 = (o2, 0) := by rw [hS, ← he, he0, unpT_nil]
      refine wp_seq ?_
      refine wsl ?_
      refine mvS F0 rfl rfl rfl rfl rfl fun a1 F1 => ?_
      refine sr F1 (run_len rfl (F1.ev 19 rfl) rfl Tryd.underlying9) rfl rfl rfl fun a2 F2 => ?_
      refine sr (v := (.bool false)) F2 (run_gtr rfl (F2.ev 20 rfl) rfl (decide_eq_false (by omega))) rfl rfl rfl fun a3 F3 => ?_
      refine sn ?_
      clear F0 F1 F2
      refine wp_cond_false (F3.ev 21 rfl) ?_
      refine wp_exit ?_
      refine nxExit ?_
      refine nxExit ?_
      refine bkHere ?_
      refine nx ?_
      refine wsl ?_
      refine mvS F3 rfl rfl rfl rfl rfl fun a4 F4 => ?_
      refine sr (v := (.string ⟨o2.toArray⟩)) F4 (run_strO hO0 rfl (F4.ev 37 rfl)) rfl rfl rfl fun a5 F5 => ?_
      refine asS F5 rfl rfl rfl rfl rfl fun a6 F6 => ?_
      refine sr (v := (.int .i64 0)) F6 (run_as rfl rfl) rfl rfl rfl fun a7 F7 => ?_
      refine sn ?_
      clear F3 F4 F5 F6
      refine wp_ret ?_
      exact ret2 F7 rfl rfl rfl ⟨by rw [hres], M0.below⟩
end Go.Proofs.YtdjjiblijbjobaaDoor
/- Bytes of a text, alike or not. -/
namespace Go.Proofs.YtdjjiblijbjobaaDoor
open Go.RowKit

theorem bt_get {l : List UInt8} {i : Nat} (h : i < l.length) : l[i]? = some (bt l i) := by simp [bt, h]
theorem bt_ne {l : List UInt8} {i j : Nat} (hi : i < l.length) (hj : j < l.length) (h : ¬ (bt l i).toNat = (bt l j).toNat) : l[i]? ≠ l[j]? := by
  rw [bt_get hi, bt_get hj]
  intro e
  injection e with e
  exact h (by rw [e])
theorem bt_eq {l : List UInt8} {i j : Nat} (hi : i < l.length) (hj : j < l.length) (h : (bt l i).toNat = (bt l j).toNat) : l[i]? = l[j]? := by
  rw [bt_get hi, bt_get hj, UInt8.toNat_inj.1 h]
end Go.Proofs.YtdjjiblijbjobaaDoor
