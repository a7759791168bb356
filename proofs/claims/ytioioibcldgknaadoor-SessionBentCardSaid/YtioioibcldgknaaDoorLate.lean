/- Drawn regions whose store into one block may come ahead of reads: all other operations have one value each. No program in sight. -/
import Derived.Test.YtioioibcldgknaaDoorBaseB
namespace Go.Proofs.YtioioibcldgknaaDoor
open Go.RowKit
variable {D : List Deferred}

section
variable {P : Program} {l : List Oper} {w w0 W : World} {M : List (Nat × (Obj → Prop))} {j g m : Nat} {t : TypeId} {old cs : Array Value}
def isAny (t : TypeId) : Obj → Prop := fun ob => ∃ cs, ob = .cells cs t (0, 0)
theorem Alm.grown (h : Alm w [(g, t, m)] W) : w.grownBy W (some g) :=
  ⟨h.os, h.tape, h.output, h.size, fun k hk hne => h.old k hk fun x hx => by
    simp only [List.mem_cons, List.not_mem_nil, or_false] at hx
    subst hx
    exact fun e => hne (by rw [← e])⟩
theorem Mem.alm (hM : Mem w0 M w) (j : Nat) (e : M[j]? = some (g, isB t old)) (hS : Alm w [(g, t, m)] W) : Mem w0 (M.set j (g, isAny t)) W := by
  obtain ⟨_, cs, hB, _⟩ := hS.row (g, t, m) (by simp)
  exact hM.upd j e hS.grown ⟨_, hB, cs, rfl⟩
theorem Mem.late (hM : Mem w0 M w) (j : Nat) (e : M[j]? = some (g, isB t old)) (hS : Alm w [(g, t, m)] W) (hB : Blk W g t cs) : Mem w0 (M.set j (g, isB t cs)) W := hM.upd j e hS.grown ⟨_, hB, rfl⟩
theorem Alm.start (hM : Mem w0 M w) (e : M[j]? = some (g, isB t old)) (hold : old.size = m) : Alm w [(g, t, m)] w :=
  ⟨rfl, rfl, rfl, Nat.le_refl _, fun _ _ _ => rfl, fun x hx => by
    simp only [List.mem_cons, List.not_mem_nil, or_false] at hx
    subst hx
    exact ⟨(hM.at j e).lt, old, hM.at j e, hold⟩⟩
theorem rows_of {base : Nat} {KL : List (Kr base)} {q r i x : Nat} (h : KL.map (·.row) = List.replicate q none ++ some g :: List.replicate r none) (hx : (KL.getD i krany).row = some x) : i = q ∧ x = g := by
  have e : (KL.getD i krany).row = ((KL.map (·.row))[i]?).getD none := by
    rw [List.getD_eq_getElem?_getD, List.getElem?_map]
    cases KL[i]? <;> rfl
  rw [e, h] at hx
  by_cases h1 : i < q
  · rw [List.getElem?_append_left (by simpa using h1)] at hx
    simp [h1] at hx
  · rw [List.getElem?_append_right (by simpa using h1)] at hx
    simp only [List.length_replicate] at hx
    cases hi : i - q with
    | zero =>
      rw [hi] at hx
      simp only [List.getElem?_cons_zero, Option.getD_some, Option.some.injEq] at hx
      exact ⟨by omega, hx.symm⟩
    | succ y =>
      rw [hi, List.getElem?_cons_succ] at hx
      simp only [List.getElem?_replicate] at hx
      split at hx <;> cases hx
def onlyB (l : List Oper) (q : Nat) : Bool := (List.range l.length).all fun i => match l[i]? with | some o => o.dst.isSome || i == q | none => true
theorem wp_region_k1 {id : Nat} {Q : Exit → Act → World → Prop} {a0 : Act} (n q r : Nat) (hm : P.follows .mixedOrders = true) (hB : looseB l n = true) (hq : onlyB l q = true) (hn : a0.tmps.size = n) (KL : List (Kr w.heap.size)) (hM : Mem w0 M w) (e : M[j]? = some (g, isB t old)) (hold : old.size = m)
    (hK : KL.getD q krany = krblk g t cs) (hrow : KL.map (·.row) = List.replicate q none ++ some g :: List.replicate r none) (hop : AskAllR P l a0 w [(g, t, m)] KL 0 l) (hql : (match l[q]? with | some o => o.dst == none | none => false) = true)
    (hend : ∀ a W, w.grownBy W (some g) → Mem w0 (M.set j (g, isB t cs)) W → Known l a0 (rT KL) (fun _ => true) a W → Q .normal a W) : (Code.region id l.toArray true).wp P Q a0 w := by
  refine wp_region_kr n [(g, t, m)] hm hB hn KL (fun x hx y hy _ => ?_) (Alm.start hM e hold) (fun i k x h1 h2 => ?_) (fun i o ho hno v W hT => ?_) hop fun a W hS hKn => hend a W hS.grown (hM.late j e hS (hKn.rblk (i := q) hql hK)) hKn
  · simp only [List.mem_cons, List.not_mem_nil, or_false] at hx hy
    rw [hx, hy]
  · rw [(rows_of hrow h1).1, (rows_of hrow h2).1]
  · have hi : i = q := by
      have h1 := List.all_eq_true.1 hq i (by rw [List.mem_range]; exact (List.getElem?_eq_some_iff.1 ho).1)
      rw [ho] at h1
      simpa [hno] using h1
    subst hi
    unfold rT at hT ⊢
    rw [hK] at hT ⊢
    exact hT
end
section
variable {P : Program} {l : List Oper} {a0 : Act} {w : World} {rs : List (Nat × TypeId × Nat)} {KL : List (Kr w.heap.size)} {i : Nat} {o : Oper} {W : World} {a : Act}
theorem givr_run {c : Value} (h : (execOp a.eval o).run P W = .ok (.value c) W) (hk : KL.getD i krany = krval c) : GivesT P (rR KL rs i W) (rT KL i) ((execOp a.eval o).run P W) := givr_val h hk rfl
end
end Go.Proofs.YtioioibcldgknaaDoor
