/- A law for regions that draw their order: where each operation, in the text's order, gives one value in every world that meets S, and leaves a world that meets S (a load of old memory, a call that only makes memory), then so does the region in whatever order; and with a tail of operations that wait for all the others. -/
import Derived.WalkKit
import Derived.StillTail
import Derived.StillTactics
import Derived.Deep.RegionHeld3
namespace Go.Proofs.YtilbebjjmnncdaaDoor
open Go

section
variable {P : Program} {ops : Array Oper} {md : Region.Mode} {S : World → Prop}

/-- how an operation may come out: v, and a world that meets S. -/
def GivesRes (P : Program) (S : World → Prop) (v : Value) : Result Next → Prop
  | .ok (.value u) w' => u = v ∧ S w'
  | .ok .skip w' => v = undef ∧ S w'
  | .ok (.enter f args) w' => Calls P f args w' fun e w'' => e = .returned v ∧ S w''
  | _ => False

def Gives (P : Program) (ops : Array Oper) (S : World → Prop) (o : Oper) (v : Value) (a : Act) : Prop :=
  (Region.wanted o (yielded ops a.tmps) = true ∧ ∀ w, S w → GivesRes P S v ((execOp a.eval o).run P w)) ∨ (Region.wanted o (yielded ops a.tmps) = false ∧ v = undef)

theorem Gives.same {o : Oper} {v : Value} {a a' : Act} (h : Gives P ops S o v a) (he : execOp a'.eval o = execOp a.eval o)
    (hw : Region.wanted o (yielded ops a'.tmps) = Region.wanted o (yielded ops a.tmps)) : Gives P ops S o v a' := by
  unfold Gives at *; rw [he, hw]; exact h

/-- in the text's order. -/
def wpVal (P : Program) (ops : Array Oper) (S : World → Prop) (Q : Act → Prop) : List Oper → Act → Prop
  | [], a => Q a
  | o :: rest, a => ∃ v, Gives P ops S o v a ∧ wpVal P ops S Q rest (a.put o.dst v)

/-- in whatever order: the first n operations come up, L holds then. -/
def anyVal (P : Program) (md : Region.Mode) (ops : Array Oper) (S : World → Prop) (n : Nat) (L : Array Bool → Act → Prop) : Nat → Array Bool → Act → Prop
  | 0, listed, a => L listed a
  | f + 1, listed, a => Region.ready md ops listed ≠ [] ∧ ∀ i ∈ Region.ready md ops listed, i < n ∧
      ∃ oi v, ops[i]? = some oi ∧ Gives P ops S oi v a ∧ anyVal P md ops S n L f (listed.setIfInBounds i true) (a.put oi.dst v)

theorem Gives.wpOp {i : Nat} {o : Oper} {v : Value} {a : Act} {w : World} {K : Act → World → Prop} {Q : Exit → Act → World → Prop} (hi : ops[i]? = some o) (h : Gives P ops S o v a)
    (hS : S w) (hK : ∀ w', S w' → K (a.put o.dst v) w') : Go.wpOp P ops Q i K a w := by
  unfold Go.wpOp
  simp only [hi]
  rcases h with ⟨hw, hv⟩ | ⟨hw, rfl⟩
  · rw [if_pos hw]
    left
    have h1 := hv w hS
    unfold Oper.wp
    generalize (execOp a.eval o).run P w = r at h1
    cases r with
    | ok x w' =>
      cases x <;> simp only [GivesRes] at h1
      case value u => obtain ⟨rfl, h2⟩ := h1; exact hK _ h2
      case skip => obtain ⟨rfl, h2⟩ := h1; exact hK _ h2
      case enter f args =>
        show Calls P f args w' _
        refine h1.mono ?_
        rintro e w'' ⟨rfl, h2⟩
        exact hK _ h2
    | halt x w' => simp only [GivesRes] at h1
  · rw [if_neg (by rw [hw]; decide)]; exact hK _ hS

theorem wpAny_of_anyVal {n g : Nat} {L : Array Bool → Act → Prop} {Q' : Exit → Act → World → Prop} (hL : ∀ listed a w, L listed a → S w → wpAny P md ops Q' g listed a w) :
    ∀ (f : Nat) (listed : Array Bool) (a : Act) (w : World), S w → anyVal P md ops S n L f listed a → wpAny P md ops Q' (f + g) listed a w
  | 0, listed, a, w, hS, h => by rw [Nat.zero_add]; exact hL _ _ _ h hS
  | f + 1, listed, a, w, hS, h => by
    rw [show f + 1 + g = (f + g) + 1 by omega]
    refine ⟨fun h0 => absurd h0 h.1, fun i hi => ?_⟩
    obtain ⟨_, oi, v, hoi, hg, hrest⟩ := h.2 i hi
    exact hg.wpOp hoi hS (fun w' hw' => wpAny_of_anyVal hL f _ _ w' hw' hrest)

theorem anyVal_first {n i : Nat} {oi : Oper} {v : Value} {L : Array Bool → Act → Prop} (hi : ops[i]? = some oi) (hsel : ∀ (j : Nat) (o : Oper) cs b, ops[j]? = some o → o.op ≠ .select cs b)
    (Inv : Array Bool → Prop) (hset : ∀ listed j, Inv listed → j ∈ Region.ready md ops listed → j < n → Inv (listed.setIfInBounds j true))
    (hwait : ∀ listed, Inv listed → listed.getD i true = false → ∀ t, n ≤ t → t ∉ Region.ready md ops listed) (hin : i < n)
    (hdone : ∀ listed a, L listed a → ∀ j ∈ Region.ready md ops listed, n ≤ j) :
    ∀ (f : Nat) (listed : Array Bool) (a : Act), Inv listed →
      (∀ j oj, ops[j]? = some oj → j ≠ i → listed.getD j true = false → (∀ e ∈ oj.after, Region.binds md e = true → e.on ≠ i) → oi.apart ops oj = true) →
      i ∈ Region.ready md ops listed → Gives P ops S oi v a →
      anyVal P md ops S n L f (listed.setIfInBounds i true) (a.put oi.dst v) → anyVal P md ops S n L (f + 1) listed a := by
  intro f
  induction f with
  | zero =>
    intro listed a inv _ hr hy H
    have hun := (mem_ready.1 hr).1
    refine ⟨fun h => (by rw [h] at hr; cases hr), fun j hj => ?_⟩
    have hjn : j < n := by
      rcases Nat.lt_or_ge j n with h | h
      · exact h
      · exact absurd hj (hwait listed inv hun j h)
    refine ⟨hjn, ?_⟩
    by_cases hji : j = i
    · subst hji; exact ⟨oi, v, hi, hy, H⟩
    · have := hdone _ _ H j (ready_mono hj hji)
      omega
  | succ f ih =>
    intro listed a inv hfree hr hy H
    have hun := (mem_ready.1 hr).1
    refine ⟨fun h => (by rw [h] at hr; cases hr), fun j hj => ?_⟩
    have hjn : j < n := by
      rcases Nat.lt_or_ge j n with h | h
      · exact h
      · exact absurd hj (hwait listed inv hun j h)
    refine ⟨hjn, ?_⟩
    by_cases hji : j = i
    · subst hji; exact ⟨oi, v, hi, hy, H⟩
    · obtain ⟨_, oj, u, hoj, hgj, hrest⟩ := H.2 j (ready_mono hj hji)
      obtain ⟨hjun, oj', hoj', hall⟩ := mem_ready.1 hj
      have hjj : oj' = oj := Option.some.inj (hoj'.symm.trans hoj)
      subst hjj
      have hnot : ∀ e ∈ oj'.after, Region.binds md e = true → e.on ≠ i := fun e he hb heq => by
        have h1 := hall e he hb
        rw [heq, getD_both hun] at h1
        cases h1
      have hap := hfree j oj' hoj hji hjun hnot
      obtain ⟨h1, h2, h3⟩ := Oper.apart_spec hap
      have hgj' : Gives P ops S oj' u a :=
        hgj.same (execOp_put oj' (fun cs b => hsel j oj' cs b hoj) a oi.dst v h1).symm (wanted_put oj' a oi.dst v h1).symm
      refine ⟨oj', u, hoj, hgj', ?_⟩
      have hgi : Gives P ops S oi v (a.put oj'.dst u) := hy.same (execOp_put oi (fun cs b => hsel i oi cs b hi) a oj'.dst u h3) (wanted_put oi a oj'.dst u h3)
      refine ih (listed.setIfInBounds j true) (a.put oj'.dst u) (hset _ _ inv hj hjn) (fun k ok hk hki hunk hno => ?_) (ready_mono hr (Ne.symm hji)) hgi ?_
      · refine hfree k ok hk hki ?_ hno
        by_cases hjk : j = k
        · subst hjk; exact hjun
        · rw [getD_set_ne true hjk] at hunk; exact hunk
      · rw [Array.setIfInBounds_comm _ _ hji, ← Act.put_comm a v u h2]
        exact hrest

/-- with a tail. -/
theorem anyVal_lexTail {n g : Nat} {Lq : Act → Prop} (hsel : Region.noSelect ops = true) (hs : Region.sinkB md ops n = true) (hc : Region.chainB md ops n = true) (hn : n < ops.size) :
    ∀ (l : List Oper) (k : Nat) (listed : Array Bool) (a : Act), (∀ j, j < l.length → l[j]? = ops[k + j]?) → k + l.length = n → HeadInv md ops n listed →
    Region.lexHead md ops g l.length k listed = true → wpVal P ops S Lq l a →
    anyVal P md ops S n (fun listed' a' => Region.seqB md ops g n listed' = true ∧ Lq a') l.length listed a
  | [], k, listed, a, _, hk, _, hB, h => by
    have : k = n := by simpa using hk
    subst this
    exact ⟨by simpa [Region.lexHead] using hB, h⟩
  | o :: l, k, listed, a, hl, hk, inv, hB, h => by
    have h0 : ops[k]? = some o := by simpa using (hl 0 (by simp)).symm
    simp only [List.length_cons, Region.lexHead, Bool.and_eq_true] at hB
    obtain ⟨⟨hr, hf⟩, hB'⟩ := hB
    have hkn : k < n := by simp only [List.length_cons] at hk; omega
    have hr' : k ∈ Region.ready md ops listed := by simpa using hr
    obtain ⟨v, hy, hK⟩ := h
    exact anyVal_first h0 (Region.noSelect_spec hsel) (HeadInv md ops n) (fun _ _ i h1 h2 => i.set h1 h2) (fun listed' inv' hun => tail_waits hs hc hn inv' _ k rfl hkn hun) hkn (fun listed' a' hL => seqB_ready hL.1) l.length listed a inv (Region.free_spec h0 hf) hr' hy
      (anyVal_lexTail hsel hs hc hn l (k + 1) _ _ (fun j hj => by have := hl (j + 1) (by simp; omega); simpa [Nat.add_assoc, Nat.add_comm 1 j] using this) (by simp only [List.length_cons] at hk; omega) (inv.set hr' hkn) hB' hK)

theorem ready_lt {listed : Array Bool} {j : Nat} (h : j ∈ Region.ready md ops listed) : j < ops.size := by
  obtain ⟨_, o, ho, _⟩ := mem_ready.1 h
  exact (Array.getElem?_eq_some_iff.1 ho).1

/-- without one. -/
theorem anyVal_lex {Lq : Act → Prop} (hsel : Region.noSelect ops = true) :
    ∀ (l : List Oper) (k : Nat) (listed : Array Bool) (a : Act), (∀ j, l[j]? = ops[k + j]?) → k + l.length = ops.size → HeadInv md ops ops.size listed →
    Region.lexFrom md ops l.length k listed = true → wpVal P ops S Lq l a →
    anyVal P md ops S ops.size (fun listed' a' => Region.ready md ops listed' = [] ∧ Lq a') l.length listed a
  | [], _, _, _, _, _, _, hB, h => ⟨by simpa [Region.lexFrom] using hB, h⟩
  | o :: l, k, listed, a, hl, hk, inv, hB, h => by
    have h0 : ops[k]? = some o := by simpa using (hl 0).symm
    simp only [List.length_cons, Region.lexFrom, Bool.and_eq_true] at hB
    obtain ⟨⟨hr, hf⟩, hB'⟩ := hB
    have hkn : k < ops.size := by simp only [List.length_cons] at hk; omega
    have hr' : k ∈ Region.ready md ops listed := by simpa using hr
    obtain ⟨v, hy, hK⟩ := h
    exact anyVal_first h0 (Region.noSelect_spec hsel) (HeadInv md ops ops.size) (fun _ _ i h1 h2 => i.set h1 h2) (fun _ _ _ t ht hmem => by have := ready_lt hmem; omega) hkn (fun listed' a' hL j hj => by rw [hL.1] at hj; cases hj) l.length listed a inv (Region.free_spec h0 hf) hr' hy
      (anyVal_lex hsel l (k + 1) _ _ (fun j => by have := hl (j + 1); simpa [Nat.add_assoc, Nat.add_comm 1 j] using this) (by simp only [List.length_cons] at hk; omega) (inv.set hr' hkn) hB' hK)

theorem headInv0 (n : Nat) : HeadInv md ops n (Array.replicate ops.size false) :=
  ⟨by simp, fun j oj _ hl => (by rw [getD_replicate_false] at hl; cases hl), fun t _ ht => getD_in (by simpa using ht) (getD_replicate_false _ _)⟩

/-- THE LAW. -/
theorem wp_region_val {id : Nat} {Q : Exit → Act → World → Prop} {a : Act} {w : World} {l : List Oper} (hm : P.follows .mixedOrders = true) (hB : Region.lexB .any l.toArray = true) (S : World → Prop) (hS : S w.drew)
    (h : wpVal P l.toArray S (fun a' => ∀ w', S w' → Q .normal a' w') l a) : (Code.region id l.toArray true).wp P Q a w := by
  simp only [Region.lexB, Bool.and_eq_true] at hB
  refine wp_region_any hm ?_
  have H := anyVal_lex (md := .any) hB.1 l 0 (Array.replicate l.toArray.size false) a (by simp) (by simp) (headInv0 _) (by simpa using hB.2) h
  have := wpAny_of_anyVal (g := 0) (Q' := Q) (fun listed a' w' hL hS' => (⟨hL.1, hL.2 w' hS'⟩ : wpAny P .any l.toArray Q 0 listed a' w')) _ _ _ w.drew hS H
  simpa using this

/-- THE LAW WITH A TAIL: the last operations wait for all the others, one for the other. -/
theorem wp_region_valTail {id : Nat} {Q : Exit → Act → World → Prop} {a : Act} {w : World} {l : List Oper} (n : Nat) (hm : P.follows .mixedOrders = true) (hB : Region.lexTailB .any l.toArray n = true) (S : World → Prop) (hS : S w.drew)
    (h : wpVal P l.toArray S (fun a' => ∀ w', S w' → wpList P l.toArray Q (l.drop n) a' w') (l.take n) a) : (Code.region id l.toArray true).wp P Q a w := by
  simp only [Region.lexTailB, Bool.and_eq_true, decide_eq_true_eq] at hB
  obtain ⟨⟨⟨⟨hsel, hn⟩, hs⟩, hc⟩, hlex⟩ := hB
  have hn' : n < l.length := by simpa using hn
  have htl : (l.take n).length = n := by simp; omega
  have hdl : (l.drop n).length = l.toArray.size - n := by simp
  have H := anyVal_lexTail (md := .any) (g := l.toArray.size - n) hsel hs hc hn (l.take n) 0 _ a (fun j hj => by
    have hj' : j < n := by rw [htl] at hj; exact hj
    simp [hj']) (by simpa using htl) (headInv0 _) (by rw [htl]; exact hlex) h
  refine wp_region_any hm ?_
  have := wpAny_of_anyVal (Q' := Q) (g := l.toArray.size - n) (fun listed a' w' hL hS' => by
    have := wpAny_of_seq (md := .any) (Q' := Q) (l.drop n) n listed a' w' (fun j => by simp [List.getElem?_drop]) (by rw [hdl]; exact hL.1) (hL.2 w' hS')
    rwa [hdl] at this) _ _ _ w.drew hS H
  rw [htl, show n + (l.toArray.size - n) = l.toArray.size by omega] at this
  exact this

/-! The same where the first p operations give their values in whatever world (plain moves), and a tail need not wait for these. -/
def sinkFrom (md : Region.Mode) (ops : Array Oper) (p n : Nat) : Bool :=
  (List.range n).all fun i => decide (i < p) || (List.range (n + 1)).any fun j => decide (i < j) && Region.waitsFor md ops j i
/-- all before p are listed. -/
def PreInv (md : Region.Mode) (ops : Array Oper) (p n : Nat) (listed : Array Bool) : Prop := HeadInv md ops n listed ∧ ∀ i, i < p → listed.getD i false = true

theorem PreInv.set {p n j : Nat} {listed : Array Bool} (h : PreInv md ops p n listed) (hj : j ∈ Region.ready md ops listed) (hn : j < n) : PreInv md ops p n (listed.setIfInBounds j true) :=
  ⟨h.1.set hj hn, fun i hi => getD_set_true (h.2 i hi)⟩

theorem tail_waits_from {p n : Nat} {listed : Array Bool} (hs : sinkFrom md ops p n = true) (hc : Region.chainB md ops n = true) (hn : n < ops.size) (inv : PreInv md ops p n listed) :
    ∀ (d i : Nat), n - i = d → i < n → listed.getD i true = false → ∀ t, n ≤ t → t ∉ Region.ready md ops listed := by
  intro d
  induction d using Nat.strongRecOn with
  | _ d ih =>
    intro i hd hi hun t ht hr
    obtain ⟨_, ot, hot, hall⟩ := mem_ready.1 hr
    have htlt : t < ops.size := (Array.getElem?_eq_some_iff.1 hot).1
    have hip : ¬ i < p := fun h => by have h1 := inv.2 i h; rw [getD_both hun] at h1; cases h1
    by_cases htn : t = n
    · subst htn
      have h1 := List.all_eq_true.1 hs i (List.mem_range.2 hi)
      simp only [Bool.or_eq_true, decide_eq_true_eq] at h1
      rcases h1 with h1 | h1
      · exact hip h1
      · obtain ⟨j, hj, hj2⟩ := List.any_eq_true.1 h1
        simp only [Bool.and_eq_true, decide_eq_true_eq] at hj2
        obtain ⟨oj, hoj, e, he, hb, hon⟩ := Region.waitsFor_spec hj2.2
        have hjle : j ≤ t := by have := List.mem_range.1 hj; omega
        by_cases hjt : j = t
        · subst hjt
          have e1 : oj = ot := Option.some.inj (hoj.symm.trans hot)
          subst e1
          have h2 := hall e he hb
          rw [hon, getD_both hun] at h2
          cases h2
        · cases hl : listed.getD j false with
          | true =>
            have h2 := inv.1.closed j oj hoj hl e he hb
            rw [hon, getD_both hun] at h2
            cases h2
          | false =>
            have hjs : j < listed.size := by rw [inv.1.size]; omega
            exact ih (t - j) (by omega) j rfl (by omega) (getD_in hjs hl) t (Nat.le_refl _) hr
    · have h1 := List.all_eq_true.1 hc t (List.mem_range.2 htlt)
      simp only [Bool.or_eq_true, decide_eq_true_eq] at h1
      rcases h1 with h1 | h1
      · omega
      · obtain ⟨o', ho', e, he, hb, hon⟩ := Region.waitsFor_spec h1
        have e1 : o' = ot := Option.some.inj (ho'.symm.trans hot)
        subst e1
        have h2 := hall e he hb
        rw [hon, getD_both (inv.1.tail (t - 1) (by omega) (by omega))] at h2
        cases h2

theorem anyVal_lexFrom {p n g : Nat} {Lq : Act → Prop} (hsel : Region.noSelect ops = true) (hs : sinkFrom md ops p n = true) (hc : Region.chainB md ops n = true) (hn : n < ops.size) :
    ∀ (l : List Oper) (k : Nat) (listed : Array Bool) (a : Act), (∀ j, j < l.length → l[j]? = ops[k + j]?) → k + l.length = n → PreInv md ops p n listed →
    Region.lexHead md ops g l.length k listed = true → wpVal P ops S Lq l a →
    anyVal P md ops S n (fun listed' a' => Region.seqB md ops g n listed' = true ∧ Lq a') l.length listed a
  | [], k, listed, a, _, hk, _, hB, h => by
    have : k = n := by simpa using hk
    subst this
    exact ⟨by simpa [Region.lexHead] using hB, h⟩
  | o :: l, k, listed, a, hl, hk, inv, hB, h => by
    have h0 : ops[k]? = some o := by simpa using (hl 0 (by simp)).symm
    simp only [List.length_cons, Region.lexHead, Bool.and_eq_true] at hB
    obtain ⟨⟨hr, hf⟩, hB'⟩ := hB
    have hkn : k < n := by simp only [List.length_cons] at hk; omega
    have hr' : k ∈ Region.ready md ops listed := by simpa using hr
    obtain ⟨v, hy, hK⟩ := h
    exact anyVal_first h0 (Region.noSelect_spec hsel) (PreInv md ops p n) (fun _ _ i h1 h2 => i.set h1 h2) (fun listed' inv' hun => tail_waits_from hs hc hn inv' _ k rfl hkn hun) hkn (fun listed' a' hL => seqB_ready hL.1) l.length listed a inv (Region.free_spec h0 hf) hr' hy
      (anyVal_lexFrom hsel hs hc hn l (k + 1) _ _ (fun j hj => by have := hl (j + 1) (by simp; omega); simpa [Nat.add_assoc, Nat.add_comm 1 j] using this) (by simp only [List.length_cons] at hk; omega) (inv.set hr' hkn) hB' hK)

/-- one first operation that gives its value in whatever world, then a head and a tail. -/
def preTailB (ops : Array Oper) (n : Nat) : Bool :=
  Region.noSelect ops && decide (n < ops.size) && decide (1 ≤ n) && sinkFrom .any ops 1 n && Region.chainB .any ops n && (Region.ready .any ops (Array.replicate ops.size false)).contains 0 && Region.free .any ops (Array.replicate ops.size false) 0 &&
    Region.lexHead .any ops (ops.size - n) (n - 1) 1 ((Array.replicate ops.size false).setIfInBounds 0 true)

theorem wp_region_preTail {id : Nat} {Q : Exit → Act → World → Prop} {a : Act} {w : World} {o : Oper} {l : List Oper} (n : Nat) (hm : P.follows .mixedOrders = true) (hB : preTailB (o :: l).toArray (n + 1) = true) (S : World → Prop) (hS : S w.drew)
    (hQ : ∀ c (a : Act) d v w, Q (.panic c) (a.put d v) w → Q (.panic c) a w) {v : Value} (hw : Region.wanted o (yielded (o :: l).toArray a.tmps) = true) (hy : ∀ w, (execOp a.eval o).run P w = .ok (.value v) w)
    (h : wpVal P (o :: l).toArray S (fun a' => ∀ w', S w' → wpList P (o :: l).toArray Q (l.drop n) a' w') (l.take n) (a.put o.dst v)) : (Code.region id (o :: l).toArray true).wp P Q a w := by
  simp only [preTailB, Bool.and_eq_true, decide_eq_true_eq] at hB
  obtain ⟨⟨⟨⟨⟨⟨⟨hsel, hn⟩, _⟩, hs⟩, hc⟩, hr0⟩, hf0⟩, hlex⟩ := hB
  have hn' : n < l.length := by simpa using hn
  have htl : (l.take n).length = n := by simp; omega
  have hdl : (l.drop n).length = (o :: l).toArray.size - (n + 1) := by simp
  refine wp_region_any hm ?_
  have h00 : (o :: l).toArray[0]? = some o := by simp
  have hr0' : 0 ∈ Region.ready .any (o :: l).toArray (Array.replicate (o :: l).toArray.size false) := by simpa using hr0
  have inv0 : PreInv .any (o :: l).toArray 1 (n + 1) ((Array.replicate (o :: l).toArray.size false).setIfInBounds 0 true) :=
    ⟨(headInv0 _).set hr0' (by omega), fun i hi => by
      have : i = 0 := by omega
      subst this
      simp⟩
  have H := anyVal_lexFrom (md := .any) (S := S) (g := (o :: l).toArray.size - (n + 1)) hsel hs hc hn (l.take n) 1 _ (a.put o.dst v) (fun j hj => by
    have hj' : j < n := by rw [htl] at hj; exact hj
    rw [List.getElem?_take_of_lt hj']
    simp [Nat.add_comm 1 j]) (by rw [htl]; omega) inv0 (by rw [htl]; simpa using hlex) h
  have H2 := wpAny_of_anyVal (Q' := Q) (g := (o :: l).toArray.size - (n + 1)) (fun listed a' w' hL hS' => by
    have := wpAny_of_seq (md := .any) (Q' := Q) (l.drop n) (n + 1) listed a' w' (fun j => by rw [List.getElem?_drop]; simp [show n + 1 + j = (n + j) + 1 by omega]) (by rw [hdl]; exact hL.1) (hL.2 w' hS')
    rwa [hdl] at this) _ _ _ w.drew hS H
  rw [htl, show n + ((o :: l).toArray.size - (n + 1)) = l.length by simp; omega] at H2
  have H3 := wpAny_take (md := .any) (Q := Q) (fuel := l.length) (w := w.drew) h00 hsel hf0 hr0 (fun c a w => hQ c a _ _ w) (.inl ⟨hw, hy⟩) H2
  have e : (o :: l).toArray.size = l.length + 1 := by simp
  rw [e]
  rw [e] at H3
  exact H3

/-- the same, the tail shown not to panic: nothing is asked of the post. -/
theorem wp_region_preTailN {id : Nat} {Q : Exit → Act → World → Prop} {a : Act} {w : World} {o : Oper} {l : List Oper} (n : Nat) (hm : P.follows .mixedOrders = true) (hB : preTailB (o :: l).toArray (n + 1) = true) (S : World → Prop) (hS : S w.drew)
    {v : Value} (hw : Region.wanted o (yielded (o :: l).toArray a.tmps) = true) (hy : ∀ w, (execOp a.eval o).run P w = .ok (.value v) w)
    (h : wpVal P (o :: l).toArray S (fun a' => ∀ w', S w' → wpList P (o :: l).toArray (NoPanic Q) (l.drop n) a' w') (l.take n) (a.put o.dst v)) : (Code.region id (o :: l).toArray true).wp P Q a w :=
  Code.wp_mono NoPanic.imp (wp_region_preTail (Q := NoPanic Q) n hm hB S hS (fun _ _ _ _ _ h => h) hw hy h)

/-- one operation that is wanted. -/
theorem wpVal_step {Q : Act → Prop} {a : Act} {o : Oper} {rest : List Oper} {v : Value} (hw : Region.wanted o (yielded ops a.tmps) = true) (h : ∀ w, S w → GivesRes P S v ((execOp a.eval o).run P w))
    (hK : wpVal P ops S Q rest (a.put o.dst v)) : wpVal P ops S Q (o :: rest) a := ⟨v, .inl ⟨hw, h⟩, hK⟩
/-- one that is not. -/
theorem wpVal_idle {Q : Act → Prop} {a : Act} {o : Oper} {rest : List Oper} (hw : Region.wanted o (yielded ops a.tmps) = false) (hK : wpVal P ops S Q rest (a.put o.dst undef)) : wpVal P ops S Q (o :: rest) a := ⟨undef, .inr ⟨hw, rfl⟩, hK⟩
/-- the same, the next frame written out. -/
theorem wpVal_stepK {Q : Act → Prop} {a : Act} {o : Oper} {rest : List Oper} {v : Value} (hw : Region.wanted o (yielded ops a.tmps) = true) (h : ∀ w, S w → GivesRes P S v ((execOp a.eval o).run P w))
    (hK : ∀ K : Act → Prop, (∀ a', wpVal P ops S Q rest a' → K a') → K (a.put o.dst v)) : wpVal P ops S Q (o :: rest) a := ⟨v, .inl ⟨hw, h⟩, hK _ (fun _ h => h)⟩
theorem wpVal_nil {Q : Act → Prop} {a : Act} (h : Q a) : wpVal P ops S Q [] a := h
end
end Go.Proofs.YtilbebjjmnncdaaDoor
