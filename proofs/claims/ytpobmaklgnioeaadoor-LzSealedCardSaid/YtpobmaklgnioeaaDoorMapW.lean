/- Maps of four bytes to places that a call makes: asked and filled. -/
import Derived.Maps.OwnSet
import Derived.DeepKeys4
import Derived.WideKeyPair
import Derived.Test.YtpobmaklgnioeaaDoorStructW
namespace Go.Proofs.YtpobmaklgnioeaaDoor
open Go.RowKit Go.Maps

theorem arr4 : WideMaps.ArrKey Tryd.prog 112 5 4 := ⟨Tryd.underlying112, by kernel_rfl, by kernel_rfl, by kernel_rfl⟩
theorem keyed4 : Keyed Tryd.prog 112 := Keyed.of_law (deep_law_laid (by kernel_rfl) (m := 2) (by omega) (of_decide_eq_true (by kernel_rfl)) (by kernel_rfl) (by rw [Tryd.underlying112]))
theorem kb8 (b : UInt8) : (Lit.int .u8 (b.toNat : Int)).keyBytes = [b] := by
  have h : b.toNat < 256 := b.toNat_lt
  have e : (((b.toNat : Int)) % 2 ^ 8).toNat % 256 = b.toNat := by omega
  show [UInt8.ofNat (((b.toNat : Int) % 2 ^ 8).toNat % 256)] = [b]
  rw [e]
  simp
theorem lw8 (b : UInt8) : (Lit.int .u8 (b.toNat : Int)).wf = true := by
  have h : b.toNat < 256 := b.toNat_lt
  show (decide ((0 : Int) ≤ b.toNat) && decide ((b.toNat : Int) ≤ 255)) = true
  simp
  omega
theorem key4 (l : List UInt8) (hl : l.length = 4) : keyOf Tryd.prog 112 (.agg (cells8 l)) = some (.string l) := by
  match l, hl with
  | [a, b, c, d], _ =>
    have hkt : Tryd.prog.keyType 112 = true := by kernel_rfl
    have hsz : ∃ m, Tryd.prog.types.size = m + 1 := ⟨Tryd.prog.types.size - 1, by
      have : 0 < Tryd.prog.types.size := of_decide_eq_true (by kernel_rfl)
      omega⟩
    obtain ⟨m, hm⟩ := hsz
    show keyOf Tryd.prog 112 (.agg #[cb a, cb b, cb c, cb d]) = _
    unfold keyOf
    simp only [arr4.hu]
    rw [if_pos (by simp [hkt, Value.formed, arr4.hu, arr4.size]), hm]
    unfold Program.keyLits
    simp only [arr4.hu, Value.cells]
    rw [if_pos (by rw [arr4.size]; rfl), show List.range 4 = [0, 1, 2, 3] from rfl, List.mapM_cons, List.mapM_cons, List.mapM_cons, List.mapM_cons, List.mapM_nil]
    simp [arr4.one, Program.keyLits, Tryd.underlying5, cb, lw8, keyBytes, kb8]

/-- a map that says of four bytes at which place they were, at most n entries. -/
def isMap4 (f : List UInt8 → Option Nat) (n : Nat) : Obj → Prop := fun ob => ∃ (es : Array MapEntry) (clock : Nat) (D : DataW Unit), ob = .map es clock ∧ WideElems.Fit Tryd.prog 112 (plainElem (H := Unit) Tryd.prog 3) es clock ∧ es.size ≤ n ∧
  D = .map ((es.toList.map (WideElems.rg Tryd.prog 112 (plainElem Tryd.prog 3))).foldr DataW.insert []) ∧ ∀ s, Maps.has D (.string s) = (f s).isSome ∧ D.atKey (.string s) (.lit (.int .i64 0)) = .lit (.int .i64 (((f s).getD 0 : Nat) : Int))
theorem isMap4_owns {w : World} {g n : Nat} {f : List UInt8 → Option Nat} (h : ∃ ob, w.heap[g]? = some ob ∧ isMap4 f n ob) : ∃ D : DataW Unit, w.ownsMap Tryd.prog 112 (plainElem Tryd.prog 3) g n D ∧ ∀ s, Maps.has D (.string s) = (f s).isSome ∧ D.atKey (.string s) (.lit (.int .i64 0)) = .lit (.int .i64 (((f s).getD 0 : Nat) : Int)) := by
  obtain ⟨ob, h1, es, clock, D, rfl, h2, h3, h4, h5⟩ := h
  exact ⟨D, ⟨es, clock, h1, h2, h3, h4⟩, h5⟩
theorem isMap4_of {w : World} {g n : Nat} {f : List UInt8 → Option Nat} {D : DataW Unit} (h : w.ownsMap Tryd.prog 112 (plainElem Tryd.prog 3) g n D) (hs : ∀ s, Maps.has D (.string s) = (f s).isSome ∧ D.atKey (.string s) (.lit (.int .i64 0)) = .lit (.int .i64 (((f s).getD 0 : Nat) : Int))) : ∃ ob, w.heap[g]? = some ob ∧ isMap4 f n ob := by
  obtain ⟨es, clock, h1, h2, h3, h4⟩ := h
  exact ⟨_, h1, es, clock, D, rfl, h2, h3, h4, hs⟩
theorem isKeyLit4 (s : List UInt8) (hs : s.length = 4) : WideAt.IsKeyLit (.string s) := keyed4.key (key4 s hs)
section
variable {a : Act} {o : Oper} {w w0 : World} {n s : Nat} {L : List (Nat × Value)} {v : Value} {ops : Array Oper} {rest : List Oper} {Q : Exit → Act → World → Prop} {M : List (Nat × (Obj → Prop))} {x y z : Operand} {g m : Nat} {f : List UInt8 → Option Nat}
set_option maxRecDepth 100000 in
theorem run_inMap4 {l : List UInt8} (ho : o.op = .lookup 77 x y true) (hx : a.eval x = .map (some g)) (hy : a.eval y = .agg (cells8 l)) (h : ∃ ob, w.heap[g]? = some ob ∧ isMap4 f m ob) (hl : l.length = 4) : (execOp a.eval o).run Tryd.prog w = .ok (.value (.tuple #[.int .i64 (((f l).getD 0 : Nat) : Int), .bool (f l).isSome])) w := by
  obtain ⟨D, h1, h2⟩ := isMap4_owns h
  have hz : (zeroValue 3).run Tryd.prog w = .ok (.int .i64 0) w := by kernel_rfl
  obtain ⟨u, ps, hr, hu⟩ := h1.look_ok keyed4 Tryd.underlying77 hz (plainElem_int Tryd.underlying3 (by decide)) (key4 l hl)
  obtain ⟨c, rfl, hc, _⟩ := plainElem_int_inv Tryd.underlying3 hu
  simp only [Prod.mk.injEq] at hc
  have h5 : c = (((f l).getD 0 : Nat) : Int) := by
    have := (h2 l).2
    rw [hc.1] at this
    injection this with h3
    injection h3
  subst h5
  rw [(h2 l).1] at hr
  unfold execOp
  simp only [ho, hx, hy, Sem.run_bind, hr, Result.andThen_ok, Sem.run_pure]
def putF (f : List UInt8 → Option Nat) (l : List UInt8) (i : Nat) : List UInt8 → Option Nat := fun s => if s = l then some i else f s
set_option maxRecDepth 100000 in
theorem sqMap4Put {l : List UInt8} {i k : Nat} (hF : Fr a n L) (hM : Mem w0 M w) (hgd : o.guard = none) (ho : o.op = .mapUpdate 77 x y z) (hd : o.dst = none) (hx : a.eval x = .map (some g)) (hy : a.eval y = .agg (cells8 l)) (hz : a.eval z = .int .i64 (k : Int)) (e : M[i]? = some (g, isMap4 f m)) (hl : l.length = 4) (hk : k ≤ maxLen) (hn : m < maxLen)
    (h : ∀ a2 w2, w.grownBy w2 (some g) → Fr a2 n L → Mem w0 (M.set i (g, isMap4 (putF f l k) (m + 1))) w2 → wpList Tryd.prog ops Q rest a2 w2) : wpList Tryd.prog ops Q (o :: rest) a w := by
  obtain ⟨D, h1, h2⟩ := isMap4_owns (hM.ob i e)
  have hIs : IsMap D := h1.isMap
  have hwf : (Lit.int .i64 (k : Int)).wf = true := by
    unfold maxLen at hk
    show (decide ((-9223372036854775808 : Int) ≤ k) && decide ((k : Int) ≤ 9223372036854775807)) = true
    simp
    omega
  obtain ⟨w2, hr, h3, h4⟩ := h1.update keyed4 Tryd.underlying77 hn (key4 l hl) (plainElem_int Tryd.underlying3 hwf)
  refine sqN hF (wantedS hgd) (w2 := w2) ?_ hd fun a2 hF2 => h a2 w2 h4 hF2 (hM.upd i e h4 (isMap4_of (D := D.put (.string l) (.lit (.int .i64 (k : Int)))) h3 fun s => ?_))
  · unfold execOp
    simp only [ho, hx, hy, hz, Sem.run_bind, hr, Result.andThen_ok, Sem.run_pure]
  · unfold putF
    by_cases hs : s = l
    · subst hs
      rw [if_pos rfl]
      refine ⟨?_, ?_⟩
      · rw [has_put_same hIs (isKeyLit4 s hl)]; rfl
      · rw [atKey_put_same hIs (isKeyLit4 s hl)]; rfl
    · rw [if_neg hs]
      refine ⟨?_, ?_⟩
      · rw [has_put_other (fun e => hs (by injection e)), (h2 s).1]
      · rw [atKey_put_other (fun e => hs (by injection e))]
        exact (h2 s).2
theorem sqMakeMap4 {r : Option Operand} (hF : Fr a n L) (hM : Mem w0 M w) (hgd : o.guard = none) (ho : o.op = .makeMap 77 r) (hr : ∀ q, r = some q → ∃ k p, a.eval q = .int k p) (hd : o.dst = some s) (hs : s < n)
    (h : ∀ g a2 w2, w.heap.size ≤ g → Below w.heap.size w w2 → Fr a2 n ((s, .map (some g)) :: L) → Mem w0 ((g, isMap4 (fun _ => none) 0) :: M) w2 → wpList Tryd.prog ops Q rest a2 w2) : wpList Tryd.prog ops Q (o :: rest) a w := by
  have hb : Below w.heap.size w (w.alloc (.map #[] 0)) := (Below.refl _ _).alloc (Nat.le_refl _) _
  refine sq hF (wantedS hgd) (v := .map (some w.heap.size)) (w2 := w.alloc (.map #[] 0)) ?_ hd hs fun a2 hF2 => h _ a2 _ (Nat.le_refl _) hb hF2 (hM.addS hb (Nat.le_refl _) (isMap4_of (World.ownsMap_made w _ _ _) fun _ => ⟨rfl, rfl⟩))
  unfold execOp
  cases r with
  | none => simp only [ho, Option.map, Sem.run_bind, run_makeMap, Result.andThen_ok, Sem.run_pure]
  | some q =>
    obtain ⟨k, p, hq⟩ := hr q rfl
    simp only [ho, Option.map, hq]
    simp [Instr.makeMap, run_underlying Tryd.underlying77, go_sem]
end
end Go.Proofs.YtpobmaklgnioeaaDoor
