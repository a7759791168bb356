/- The frame behind a drawn region, written out. -/
import Derived.Test.YtilbebjjmnncdaaDoorAsk
namespace Go.Proofs.YtilbebjjmnncdaaDoor
open Go.RowKit

/-- a whole array read, guarded or not. -/
theorem wpList_loadBw {P : Program} {w : World} {ops : Array Oper} {rest : List Oper} {o : Oper} {a : Act} {Q : Exit → Act → World → Prop} (hw : Region.wanted o (yielded ops a.tmps) = true) (ty : TypeId) (x : Operand) (ho : o.op = .load ty x)
    (g : Nat) (hx : a.eval x = .pointer (some ⟨g, 0, none⟩)) {t : TypeId} {cs : Array Value} (hB : Blk w g t cs) {d : TypeDesc} (hu : P.underlying ty = some d)
    (hd : (match d with | .struct _ | .array _ _ => true | _ => false) = true) {m : Nat} (hi : (P.info? ty).map (·.size) = some m) (hm : cs.size = m)
    (h : wpList P ops Q rest (a.put o.dst (.agg cs)) w) : wpList P ops Q (o :: rest) a w := by
  refine wpList_step fun K hK => ?_
  rw [if_pos hw]
  unfold Oper.wp execOp
  simp only [ho, hx, Instr.loadAt, Instr.sureAddr, Sem.run_bind, Sem.run_pure, Result.andThen_ok, run_loadVar_row w g t ty cs (0, 0) d hB hu hd (by rw [hm]; exact hi)]
  exact hK _ _ h
/-- each operation's value is laid, in the text's order. -/
def putAll (a : Act) : List Oper → List Value → Act
  | o :: os, v :: vs => putAll (a.put o.dst v) os vs
  | _, _ => a
/-- the slots hold the values. -/
def AllAt (a : Act) : List Oper → List Value → Prop
  | o :: os, v :: vs => (match o.dst with | some s => a.tmps[s]? = some v | none => True) ∧ AllAt a os vs
  | [], [] => True
  | _, _ => False
theorem putAll_eq {a : Act} : ∀ (r : List Oper) (vs : List Value) (b : Act), b.tmps.size = a.tmps.size → (∀ s, (∀ o ∈ r, o.dst ≠ some s) → b.tmps[s]? = a.tmps[s]?) → AllAt a r vs → b.defers = a.defers → putAll b r vs = a
  | [], [], b, hs, hb, _, hd => by
    obtain ⟨bt, bd⟩ := b
    obtain ⟨at_, ad⟩ := a
    simp only [putAll]
    simp only at hd hb
    subst hd
    congr 1
    apply Array.ext_getElem?
    intro i
    exact hb i (fun o ho => by cases ho)
  | [], _ :: _, _, _, _, h, _ => h.elim
  | _ :: _, [], _, _, _, h, _ => h.elim
  | o :: os, v :: vs, b, hs, hb, hA, hd => by
    simp only [putAll]
    refine putAll_eq os vs _ ?_ ?_ hA.2 ?_
    · cases ho : o.dst <;> simp [Act.put, hs]
    · intro s hno
      have hA1 := hA.1
      cases ho : o.dst with
      | none =>
        simp only [Act.put]
        exact hb s (fun o' ho' => by
          rcases List.mem_cons.1 ho' with rfl | h
          · rw [ho]; exact fun e => by cases e
          · exact hno o' h)
      | some d =>
        rw [ho] at hA1
        simp only at hA1
        by_cases e : d = s
        · subst e
          have hlt : d < a.tmps.size := by
            rcases Nat.lt_or_ge d a.tmps.size with h | h
            · exact h
            · rw [Array.getElem?_eq_none h] at hA1; cases hA1
          simp only [Act.put, Array.getElem?_setIfInBounds]
          rw [if_pos trivial, if_pos (by rw [hs]; exact hlt)]
          exact hA1.symm
        · simp only [Act.put, Array.getElem?_setIfInBounds]
          rw [if_neg e]
          exact hb s (fun o' ho' => by
            rcases List.mem_cons.1 ho' with rfl | h
            · rw [ho]; exact fun e' => e (Option.some.inj e')
            · exact hno o' h)
    · cases ho : o.dst <;> simp [Act.put, hd]
theorem Known.frame {l : List Oper} {a0 a : Act} {T : Nat → Value → World → Prop} {W : World} (h : Known l a0 T (fun _ => true) a W) (vs : List Value) (hA : AllAt a l vs) : putAll a0 l vs = a :=
  putAll_eq l vs a0 h.size.symm (fun s hs => (h.old s (fun _ o ho _ => hs o (List.mem_of_getElem? ho))).symm) hA h.defers.symm
theorem Known.strs {l : List Oper} {a0 a : Act} {KL : List Kd} {W : World} {i s : Nat} {L : List (List UInt8)} (h : Known l a0 (kT KL) (fun _ => true) a W) (hb : (match l[i]? with | some oj => oj.dst == some s | none => false) = true) (hk : KL.getD i kany = kstrs L) :
    ∃ v, a.tmps[s]? = some v ∧ Strs W v L := by
  cases hj : l[i]? with
  | none => rw [hj] at hb; cases hb
  | some oj =>
    rw [hj] at hb
    obtain ⟨v, h1, h2⟩ := h.new i oj s hj rfl (by simpa using hb)
    unfold kT at h2; rw [hk] at h2
    exact ⟨v, h1, h2⟩
end Go.Proofs.YtilbebjjmnncdaaDoor
