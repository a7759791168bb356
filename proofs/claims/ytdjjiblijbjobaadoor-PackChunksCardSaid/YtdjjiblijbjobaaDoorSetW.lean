/- Sets of texts (a map of texts to bools) that a call makes: asked and filled. -/
import Derived.Maps.OwnSet
import Derived.StringKeys
import Derived.Test.YtdjjiblijbjobaaDoorOpsB
namespace Go.Proofs.YtdjjiblijbjobaaDoor
open Go.RowKit Go.Maps
variable {D : List Deferred}

/-- a map that says of each text whether it is among the names. -/
def isSet (names : List (List UInt8)) : Obj → Prop := fun ob => ∃ (es : Array MapEntry) (clock : Nat) (D : DataW Unit), ob = .map es clock ∧ WideElems.Fit Tryd.prog 9 (plainElem (H := Unit) Tryd.prog 4) es clock ∧ es.size ≤ names.length ∧
  D = .map ((es.toList.map (WideElems.rg Tryd.prog 9 (plainElem Tryd.prog 4))).foldr DataW.insert []) ∧ ∀ s, D.atKey (.string s) (.lit (.bool false)) = .lit (.bool (names.contains s))
theorem isSet_owns {w : World} {g : Nat} {names : List (List UInt8)} (h : ∃ ob, w.heap[g]? = some ob ∧ isSet names ob) : ∃ D : DataW Unit, w.ownsMap Tryd.prog 9 (plainElem Tryd.prog 4) g names.length D ∧ ∀ s, D.atKey (.string s) (.lit (.bool false)) = .lit (.bool (names.contains s)) := by
  obtain ⟨ob, h1, es, clock, D, rfl, h2, h3, h4, h5⟩ := h
  exact ⟨D, ⟨es, clock, h1, h2, h3, h4⟩, h5⟩
theorem isSet_of {w : World} {g : Nat} {names : List (List UInt8)} {D : DataW Unit} (h : w.ownsMap Tryd.prog 9 (plainElem Tryd.prog 4) g names.length D) (hs : ∀ s, D.atKey (.string s) (.lit (.bool false)) = .lit (.bool (names.contains s))) : ∃ ob, w.heap[g]? = some ob ∧ isSet names ob := by
  obtain ⟨es, clock, h1, h2, h3, h4⟩ := h
  exact ⟨_, h1, es, clock, D, rfl, h2, h3, h4, hs⟩
theorem keyedS1 : Keyed Tryd.prog 9 := string_keyed Tryd.underlying9
theorem key_str (s : List UInt8) (hs : s.length ≤ maxLen) : keyOf Tryd.prog 9 (.string ⟨s.toArray⟩) = some (.string s) := by
  have h := Go.WideMaps.keyOf_string_mk (P := Tryd.prog) (k := 9) (s := ⟨s.toArray⟩) Tryd.underlying9 (by rw [str_size]; exact hs)
  simpa using h
theorem bool_inv {P : Program} {e : TypeId} (he : P.underlying e = some .bool) {v : Value} {d : DataW Unit} {ps : List MemPlace} (h : plainElem P e v = some (d, ps)) : ∃ b, v = .bool b ∧ d = .lit (.bool b) := by
  unfold plainElem at h
  rw [he] at h
  cases v <;> simp at h
  exact ⟨_, rfl, h.1.symm⟩
theorem lit_bool {b c : Bool} (h : (DataW.lit (.bool b) : DataW Unit) = .lit (.bool c)) : c = b := by
  injection h with h
  injection h with h
  exact h.symm
section
variable {a : Act} {o : Oper} {w w0 : World} {n s : Nat} {L : List (Nat × Value)} {v : Value} {ops : Array Oper} {rest : List Oper} {Q : Exit → Act → World → Prop} {M : List (Nat × (Obj → Prop))} {x y z : Operand} {g : Nat} {names : List (List UInt8)}
theorem run_inSet {l : List UInt8} (ho : o.op = .lookup 92 x y false) (hx : a.eval x = .map (some g)) (hy : a.eval y = .string ⟨l.toArray⟩) (h : ∃ ob, w.heap[g]? = some ob ∧ isSet names ob) (hl : l.length ≤ maxLen) : (execOp a.eval o).run Tryd.prog w = .ok (.value (.bool (names.contains l))) w := by
  obtain ⟨D, h1, h2⟩ := isSet_owns h
  have hz : (zeroValue 4).run Tryd.prog w = .ok (.bool false) w := by kernel_rfl
  obtain ⟨u, ps, hr, hu⟩ := h1.lookup keyedS1 Tryd.underlying92 hz (plainElem_bool Tryd.underlying4 false) (key_str l hl)
  obtain ⟨b, rfl, hb⟩ := bool_inv Tryd.underlying4 hu
  rw [h2 l] at hb
  obtain rfl := lit_bool hb
  unfold execOp
  simp only [ho, hx, hy, Sem.run_bind, hr, Result.andThen_ok, Sem.run_pure]
theorem isKeyLit_str (s : List UInt8) (hs : s.length ≤ maxLen) : WideAt.IsKeyLit (.string s) := keyedS1.key (key_str s hs)
theorem sqSetAdd {l : List UInt8} {i : Nat} (hF : FrD D a n L) (hM : Mem w0 M w) (hgd : o.guard = none) (ho : o.op = .mapUpdate 92 x y z) (hd : o.dst = none) (hx : a.eval x = .map (some g)) (hy : a.eval y = .string ⟨l.toArray⟩) (hz : a.eval z = .bool true) (e : M[i]? = some (g, isSet names)) (hl : l.length ≤ maxLen) (hn : names.length < maxLen)
    (h : ∀ a2 w2, w.grownBy w2 (some g) → FrD D a2 n L → Mem w0 (M.set i (g, isSet (names ++ [l]))) w2 → wpList Tryd.prog ops Q rest a2 w2) : wpList Tryd.prog ops Q (o :: rest) a w := by
  obtain ⟨D, h1, h2⟩ := isSet_owns (hM.ob i e)
  have hIs : IsMap D := h1.isMap
  obtain ⟨w2, hr, h3, h4⟩ := h1.update keyedS1 Tryd.underlying92 hn (key_str l hl) (plainElem_bool Tryd.underlying4 true)
  refine sqN hF (wantedS hgd) (w2 := w2) ?_ hd fun a2 hF2 => h a2 w2 h4 hF2 (hM.upd i e h4 (isSet_of (D := D.put (.string l) (.lit (.bool true))) (by rw [List.length_append]; exact h3) fun s => ?_))
  · unfold execOp
    simp only [ho, hx, hy, hz, Sem.run_bind, hr, Result.andThen_ok, Sem.run_pure]
  · by_cases hs : s = l
    · subst hs
      rw [atKey_put_same hIs (isKeyLit_str s hl)]
      simp
    · rw [atKey_put_other (fun e => hs (by injection e))]
      rw [h2 s]
      simp [hs]
theorem sqMakeSet {r : Option Operand} (hF : FrD D a n L) (hM : Mem w0 M w) (hgd : o.guard = none) (ho : o.op = .makeMap 92 r) (hr : ∀ q, r = some q → ∃ k p, a.eval q = .int k p) (hd : o.dst = some s) (hs : s < n)
    (h : ∀ g a2 w2, w.heap.size ≤ g → Below w.heap.size w w2 → FrD D a2 n ((s, .map (some g)) :: L) → Mem w0 ((g, isSet []) :: M) w2 → wpList Tryd.prog ops Q rest a2 w2) : wpList Tryd.prog ops Q (o :: rest) a w := by
  have hb : Below w.heap.size w (w.alloc (.map #[] 0)) := (Below.refl _ _).alloc (Nat.le_refl _) _
  refine sq hF (wantedS hgd) (v := .map (some w.heap.size)) (w2 := w.alloc (.map #[] 0)) ?_ hd hs fun a2 hF2 => h _ a2 _ (Nat.le_refl _) hb hF2 (hM.addS hb (Nat.le_refl _) (isSet_of (World.ownsMap_made w _ _ _) fun _ => rfl))
  unfold execOp
  cases r with
  | none => simp only [ho, Option.map, Sem.run_bind, run_makeMap, Result.andThen_ok, Sem.run_pure]
  | some q =>
    obtain ⟨k, p, hq⟩ := hr q rfl
    simp only [ho, Option.map, hq]
    simp [Instr.makeMap, run_underlying Tryd.underlying92, go_sem]
end
end Go.Proofs.YtdjjiblijbjobaaDoor
