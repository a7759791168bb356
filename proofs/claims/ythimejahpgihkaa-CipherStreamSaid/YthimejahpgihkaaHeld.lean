/- A second law for regions that draw their order: first come operations that only read (what they give holds in every world that meets S), behind them a chain of operations, each waiting for the one ahead of it, each keeping S. -/
import Derived.Test.YthimejahpgihkaaHold
import Derived.OrdersHeld
namespace Go.Proofs.Ythimejahpgihkaa
open Go

section
variable {P : Program} {ops : Array Oper} {md : Region.Mode} {S : World → Prop} {Q : Exit → Act → World → Prop}

/-- the chain, S shown behind each operation. -/
def wpListS (P : Program) (ops : Array Oper) (Q : Exit → Act → World → Prop) (S : World → Prop) : List Oper → Act → World → Prop
  | [], a, w => Q .normal a w
  | o :: rest, a, w => if Region.wanted o (yielded ops a.tmps) then o.wp P a w (fun a' w' => S w' ∧ wpListS P ops Q S rest a' w') Q else S w ∧ wpListS P ops Q S rest (a.put o.dst undef) w

theorem wpAnyH_of_seq : ∀ (l : List Oper) (k : Nat) (listed : Array Bool) (a : Act) (w : World), (∀ j, l[j]? = ops[k + j]?) →
    Region.seqB md ops l.length k listed = true → wpListS P ops Q S l a w → wpAnyH P md ops Q S l.length listed a w
  | [], _, _, _, _, _, hB, h => ⟨by simpa [Region.seqB] using hB, h⟩
  | o :: l, k, listed, a, w, hl, hB, h => by
    have h0 : ops[k]? = some o := by simpa using (hl 0).symm
    simp only [List.length_cons, Region.seqB, Bool.and_eq_true, decide_eq_true_eq] at hB
    refine ⟨fun h1 => (by rw [hB.1] at h1; cases h1), fun i hi => ?_⟩
    rw [hB.1] at hi
    have hik : i = k := by simpa using hi
    subst hik
    have hw : wpOp P ops Q i (fun a' w' => S w' ∧ wpListS P ops Q S l a' w') a w := by
      unfold wpOp
      simp only [h0]
      unfold wpListS at h
      split
      · rename_i hwt; rw [if_pos hwt] at h; exact .inl h
      · rename_i hwt; rw [if_neg hwt] at h; exact h
    exact wpOp_mono (fun a' w' h' => ⟨h'.1, wpAnyH_of_seq l (i + 1) _ a' w' (fun j => by have := hl (j + 1); simpa [Nat.add_assoc, Nat.add_comm 1 j] using this) hB.2 h'.2⟩) hw

/-- the readers, in the text's order. -/
def wpTake (P : Program) (ops : Array Oper) (S : World → Prop) (K : Act → Prop) : List Oper → Act → Prop
  | [], a => K a
  | o :: rest, a => ∃ v, YieldsIf P ops S o v a ∧ wpTake P ops S K rest (a.put o.dst v)

theorem wpAnyH_takes {g : Nat} (hsel : Region.noSelect ops = true) (hQ : ∀ c (a : Act) d v w, Q (.panic c) (a.put d v) w → Q (.panic c) a w) {w : World} (hS : S w) (K : Act → Prop) (kk : Nat)
    (hK : ∀ listed a, Region.seqB md ops g kk listed = true → K a → wpAnyH P md ops Q S g listed a w) :
    ∀ (l : List Oper) (k : Nat) (listed : Array Bool) (a : Act), (∀ j, j < l.length → l[j]? = ops[k + j]?) → k + l.length = kk → Region.lexHead md ops g l.length k listed = true → wpTake P ops S K l a →
      wpAnyH P md ops Q S (l.length + g) listed a w
  | [], k, listed, a, _, hk, hB, h => by
    have : k = kk := by simpa using hk
    subst this
    rw [List.length_nil, Nat.zero_add]
    exact hK listed a (by simpa [Region.lexHead] using hB) h
  | o :: l, k, listed, a, hl, hk, hB, h => by
    have h0 : ops[k]? = some o := by simpa using (hl 0 (by simp)).symm
    simp only [List.length_cons, Region.lexHead, Bool.and_eq_true] at hB
    obtain ⟨⟨hr, hf⟩, hB'⟩ := hB
    obtain ⟨v, hy, hrest⟩ := h
    rw [List.length_cons, show l.length + 1 + g = (l.length + g) + 1 by omega]
    exact wpAnyH_take h0 hsel hf hr (fun c a w => hQ c a _ _ w) hy hS
      (wpAnyH_takes hsel hQ hS K kk hK l (k + 1) _ _ (fun j hj => by have := hl (j + 1) (by simp; omega); simpa [Nat.add_assoc, Nat.add_comm 1 j] using this) (by simp only [List.length_cons] at hk; omega) hB' hrest)

def takeSeqB (ops : Array Oper) (n : Nat) : Bool :=
  Region.noSelect ops && decide (n ≤ ops.size) && Region.lexHead .any ops (ops.size - n) n 0 (Array.replicate ops.size false)

/-- THE LAW. -/
theorem wp_region_take {id : Nat} {a : Act} {w : World} {l : List Oper} (n : Nat) (hm : P.follows .mixedOrders = true) (hB : takeSeqB l.toArray n = true) (S : World → Prop) (hS : S w.drew)
    (h : wpTake P l.toArray S (fun a' => wpListS P l.toArray (NoPanic Q) S (l.drop n) a' w.drew) (l.take n) a) : (Code.region id l.toArray true).wp P Q a w := by
  simp only [takeSeqB, Bool.and_eq_true, decide_eq_true_eq] at hB
  obtain ⟨⟨hsel, hn⟩, hlex⟩ := hB
  have hn' : n ≤ l.length := by simpa using hn
  have htl : (l.take n).length = n := by simp; omega
  have hdl : (l.drop n).length = l.toArray.size - n := by simp
  refine Code.wp_mono NoPanic.imp (wp_region_held (S := S) hm ?_)
  have H := wpAnyH_takes (P := P) (md := .any) (Q := NoPanic Q) (g := l.toArray.size - n) hsel (fun _ _ _ _ _ h => h) hS (fun a' => wpListS P l.toArray (NoPanic Q) S (l.drop n) a' w.drew) n (fun listed a' hB2 hK => by
    have := wpAnyH_of_seq (md := .any) (l.drop n) n listed a' w.drew (fun j => by simp [List.getElem?_drop]) (by rw [hdl]; exact hB2) hK
    rwa [hdl] at this) (l.take n) 0 (Array.replicate l.toArray.size false) a (fun j hj => by
      have hj' : j < n := by rw [htl] at hj; exact hj
      simp [hj']) (by simpa using htl) (by rw [htl]; exact hlex) h
  rw [htl, show n + (l.toArray.size - n) = l.toArray.size by omega] at H
  exact H

theorem wpTake_step {K : Act → Prop} {a : Act} {o : Oper} {rest : List Oper} {v : Value} (hw : Region.wanted o (yielded ops a.tmps) = true) (h : ∀ w, S w → (execOp a.eval o).run P w = .ok (.value v) w)
    (hK : ∀ K' : Act → Prop, (∀ a', wpTake P ops S K rest a' → K' a') → K' (a.put o.dst v)) : wpTake P ops S K (o :: rest) a := ⟨v, .inl ⟨hw, h⟩, hK _ (fun _ h => h)⟩
theorem wpTake_nil {K : Act → Prop} {a : Act} (h : K a) : wpTake P ops S K [] a := h
/-- an operation of the chain that gives a value. -/
theorem wpListS_value {a : Act} {w w' : World} {o : Oper} {rest : List Oper} {v : Value} (hw : Region.wanted o (yielded ops a.tmps) = true) (h : (execOp a.eval o).run P w = .ok (.value v) w') (hS : S w')
    (hK : ∀ K' : Act → Prop, (∀ a', wpListS P ops Q S rest a' w' → K' a') → K' (a.put o.dst v)) : wpListS P ops Q S (o :: rest) a w := by
  unfold wpListS
  rw [if_pos hw]
  unfold Oper.wp
  rw [h]
  exact ⟨hS, hK _ (fun _ h => h)⟩
/-- a call. -/
theorem wpListS_call {a : Act} {w w' : World} {o : Oper} {rest : List Oper} {f : FuncId} {args : Array Value} {v : Value} (hw : Region.wanted o (yielded ops a.tmps) = true) (h : (execOp a.eval o).run P w = .ok (.enter f args) w')
    (hc : Calls P f args w' fun e w'' => e = .returned v ∧ S w'') (hK : ∀ w'', S w'' → ∀ K' : Act → Prop, (∀ a', wpListS P ops Q S rest a' w'' → K' a') → K' (a.put o.dst v)) : wpListS P ops Q S (o :: rest) a w := by
  unfold wpListS
  rw [if_pos hw]
  unfold Oper.wp
  rw [h]
  show Calls P f args w' _
  refine hc.mono ?_
  rintro e w'' ⟨rfl, h2⟩
  exact ⟨h2, hK w'' h2 _ (fun _ h => h)⟩
theorem wpListS_nil {a : Act} {w : World} (h : Q .normal a w) : wpListS P ops Q S [] a w := h
end
end Go.Proofs.Ythimejahpgihkaa
