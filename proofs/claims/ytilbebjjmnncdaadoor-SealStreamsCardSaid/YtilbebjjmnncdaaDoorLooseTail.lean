/- The law of Loose with a tail: the last operations wait for all the others, one for the other. No program in sight. -/
import Derived.Test.YtilbebjjmnncdaaDoorAskR
namespace Go.Proofs.YtilbebjjmnncdaaDoor
open Go.RowKit

section
variable {P : Program} {l : List Oper}
def tailB (l : List Oper) (n0 : Nat) : Bool :=
  decide (n0 < l.length) && Region.sinkB .any l.toArray n0 && Region.chainB .any l.toArray n0 && Region.seqB .any l.toArray (l.length - n0) n0 (List.replicate n0 true ++ List.replicate (l.length - n0) false).toArray

theorem openN_lt {n : Nat} {listed : Array Bool} (ho : openN n listed ≠ 0) : ∃ i, i < n ∧ listed.getD i true = false := by
  unfold openN at ho
  have : ((List.range n).filter fun i => listed.getD i true == false) ≠ [] := fun e => ho (by rw [e]; rfl)
  obtain ⟨i, hi⟩ := List.exists_mem_of_ne_nil _ this
  rw [List.mem_filter, List.mem_range] at hi
  exact ⟨i, hi.1, by simpa using hi.2⟩
theorem openN_set' (n : Nat) (listed : Array Bool) (i : Nat) (hi : i < n) (_hs : n ≤ listed.size) (hu : listed.getD i true = false) : openN n listed = openN n (listed.setIfInBounds i true) + 1 := by
  unfold openN
  have key : ∀ m, m ≤ n → (((List.range m).filter fun k => listed.getD k true == false).length = ((List.range m).filter fun k => (listed.setIfInBounds i true).getD k true == false).length + if i < m then 1 else 0) := by
    intro m
    induction m with
    | zero => intro _; simp
    | succ m ih =>
      intro hmn
      rw [List.range_succ, List.filter_append, List.filter_append, List.length_append, List.length_append, ih (by omega)]
      by_cases hm : m = i
      · subst hm
        have e1 : (listed.setIfInBounds m true).getD m true = true := by simp
        rw [List.filter_cons, List.filter_cons, hu, e1]
        simp
      · have e1 : (listed.setIfInBounds i true).getD m true = listed.getD m true := by
          simp only [Array.getD_eq_getD_getElem?, Array.getElem?_setIfInBounds]
          rw [if_neg (fun h => hm h.symm)]
        have e2 : ([m].filter fun k => (listed.setIfInBounds i true).getD k true == false) = ([m].filter fun k => listed.getD k true == false) := by
          rw [List.filter_cons, List.filter_cons, e1]; rfl
        rw [e2]
        by_cases h1 : i < m
        · rw [if_pos h1, if_pos (by omega)]; omega
        · rw [if_neg h1, if_neg (by omega)]; omega
  rw [key n (Nat.le_refl _), if_pos hi]

theorem wp_region_looseTail {id : Nat} {Q : Exit → Act → World → Prop} {a0 : Act} {w : World} (n n0 : Nat) (hm : P.follows .mixedOrders = true) (hB : looseB l n = true) (hTB : tailB l n0 = true) (hn : a0.tmps.size = n)
    (S : World → Prop) (T : Nat → Value → World → Prop) (R : Nat → World → World → Prop) (hS : S w.drew) (hRS : ∀ i W W', S W → R i W W' → S W') (hRT : ∀ i j v W W', j ≠ i → S W → R i W W' → T j v W → T j v W')
    (hdn : ∀ i o, l[i]? = some o → o.dst = none → ∀ v W, T i v W → T i undef W) (hop : ∀ i o, i < n0 → l[i]? = some o → Asks P l a0 S T R i o)
    (hend : ∀ a W, S W → Known l a0 T (fun i => decide (i < n0)) a W → wpList P l.toArray Q (l.drop n0) a W) : (Code.region id l.toArray true).wp P Q a0 w := by
  simp only [tailB, Bool.and_eq_true, decide_eq_true_eq] at hTB
  obtain ⟨⟨⟨hlt, hsink⟩, hchain⟩, hseq⟩ := hTB
  refine wp_region_any hm ?_
  have main : ∀ (f : Nat) (listed : Array Bool) (a : Act) (W : World), HeadInv .any l.toArray n0 listed → openN n0 listed = f → S W → Known l a0 T (fun j => listed.getD j false) a W →
      wpAny P .any l.toArray Q (f + (l.length - n0)) listed a W := by
    intro f
    induction f with
    | zero =>
      intro listed a W inv hf hSW hK
      have hsz : listed.size = l.length := by simpa using inv.size
      have hall : ∀ j, j < n0 → listed.getD j false = true := by
        intro j hj
        have hjs : j < listed.size := by omega
        cases hu : listed.getD j true with
        | true =>
          simp only [Array.getD_eq_getD_getElem?, Array.getElem?_eq_getElem hjs, Option.getD_some] at hu ⊢
          exact hu
        | false =>
          have := openN_set' n0 listed j hj (by omega) hu
          omega
      have hlisted : listed = (List.replicate n0 true ++ List.replicate (l.length - n0) false).toArray := by
        apply Array.ext
        · simp; omega
        · intro i h1 h2
          by_cases hi : i < n0
          · have := hall i hi
            simp only [Array.getD_eq_getD_getElem?, Array.getElem?_eq_getElem h1, Option.getD_some] at this
            rw [this]
            simp [hi]
          · have := inv.tail i (by omega) (by simpa [hsz] using h1)
            simp only [Array.getD_eq_getD_getElem?, Array.getElem?_eq_getElem h1, Option.getD_some] at this
            rw [this]
            simp [List.getElem_append, hi]
      have hlen : (l.drop n0).length = l.length - n0 := by simp
      rw [Nat.zero_add, ← hlen]
      refine wpAny_of_seq (md := .any) (l.drop n0) n0 listed a W (fun j => by simp [List.getElem?_drop]) (by rw [hlen, hlisted]; exact hseq) (hend a W hSW ?_)
      have hiff : ∀ j, j < l.length → (listed.getD j false = true ↔ j < n0) := by
        intro j hj
        constructor
        · intro h
          rcases Nat.lt_or_ge j n0 with h' | h'
          · exact h'
          · have := getD_both (inv.tail j h' (by simpa using hj))
            rw [this] at h; cases h
        · exact hall j
      exact ⟨hK.size, hK.defers, fun s hs => hK.old s (fun i o hi hl => hs i o hi (by have := (hiff i (List.getElem?_eq_some_iff.1 hi).1).1 hl; simpa using this)),
        fun i o s hi hl hs => hK.new i o s hi ((hiff i (List.getElem?_eq_some_iff.1 hi).1).2 (by simpa using hl)) hs, fun i o hi hl hs => hK.mem i o hi ((hiff i (List.getElem?_eq_some_iff.1 hi).1).2 (by simpa using hl)) hs⟩
    | succ f ih =>
      intro listed a W inv hf hSW hK
      have hsz : listed.size = l.length := by simpa using inv.size
      rw [show f + 1 + (l.length - n0) = (f + (l.length - n0)) + 1 by omega]
      obtain ⟨i1, hi1, hu1⟩ := openN_lt (n := n0) (listed := listed) (by omega)
      have hopen : openN l.length listed ≠ 0 := by
        have := openN_set' l.length listed i1 (by omega) (by omega) hu1
        omega
      refine ⟨fun h => absurd h (ready_of_open hB hsz hopen), fun i hi => ?_⟩
      have hin : i < n0 := by
        rcases Nat.lt_or_ge i n0 with h | h
        · exact h
        · exact absurd hi (tail_waits hsink hchain (by simpa using hlt) inv _ i1 rfl hi1 hu1 i h)
      obtain ⟨hu, o, ho, hwait⟩ := mem_ready.1 hi
      have hio : l[i]? = some o := by simpa using ho
      have hil := (List.getElem?_eq_some_iff.1 hio).1
      have hstep : ∀ v W', R i W W' ∨ W' = W → T i v W' → wpAny P .any l.toArray Q (f + (l.length - n0)) (listed.setIfInBounds i true) (a.put o.dst v) W' := by
        intro v W' hR hTv
        have hS' : S W' := by
          rcases hR with hR | rfl
          · exact hRS i W W' hSW hR
          · exact hSW
        refine ih _ _ _ (inv.set hi hin) (by have := openN_set' n0 listed i hin (by omega) hu; omega) hS' ?_
        refine hK.put hB hn hio hsz hu (fun j u hne hTj => ?_) hTv (fun hd => hdn i o hio hd v W' hTv)
        rcases hR with hR | rfl
        · exact hRT i j u W W' hne hSW hR hTj
        · exact hTj
      have hlist : ∀ j, Region.waitsFor .any l.toArray i j = true → listed.getD j false = true := by
        intro j hj
        obtain ⟨o', ho', e, he, hb, hon⟩ := Region.waitsFor_spec hj
        have e1 : o' = o := Option.some.inj (ho'.symm.trans ho)
        subst e1
        rw [← hon]; exact hwait e he hb
      have hask := hop i o hin hio a W hSW (fun s v hs hv => by
          rw [hK.old s (fun j oj hj _ hd => by
            have := List.all_eq_true.1 hs oj (List.mem_of_getElem? hj)
            rw [hd] at this; simp at this)]
          exact hv)
        (fun j hj oj s hoj hs => hK.new j oj s hoj (hlist j hj) hs) (fun j hj oj hoj hs => hK.mem j oj hoj (hlist j hj) hs)
      unfold wpOp
      simp only [ho]
      rcases hask with ⟨hw, hg⟩ | ⟨hw, hT⟩
      · rw [if_pos hw]
        left
        unfold Oper.wp
        generalize (execOp a.eval o).run P W = r at hg
        cases r with
        | ok x w' =>
          cases x <;> simp only [GivesT] at hg
          case value u => exact hstep _ _ (.inl hg.1) hg.2
          case skip => exact hstep _ _ (.inl hg.1) hg.2
          case enter f' args =>
            show Calls P f' args w' _
            refine hg.mono ?_
            rintro e w'' ⟨v, rfl, h1, h2⟩
            exact hstep _ _ (.inl h1) h2
        | halt x w' => simp only [GivesT] at hg
      · rw [if_neg (by rw [hw]; decide)]
        exact hstep _ _ (.inr rfl) hT
  have h0 : openN n0 (Array.replicate l.toArray.size false) = n0 := by
    unfold openN
    have : ((List.range n0).filter fun i => (Array.replicate l.toArray.size false).getD i true == false) = List.range n0 := by
      apply List.filter_eq_self.2
      intro i hi
      rw [List.mem_range] at hi
      have : i < l.length := by omega
      simp [this]
    rw [this]; simp
  have e : l.toArray.size = n0 + (l.length - n0) := by simp; omega
  have := main n0 (Array.replicate l.toArray.size false) a0 w.drew (headInv0 n0) h0 hS ⟨rfl, rfl, fun s _ => rfl, fun i o s hi hl => (by rw [getD_replicate_false] at hl; cases hl), fun i o hi hl => (by rw [getD_replicate_false] at hl; cases hl)⟩
  rw [e] at this ⊢
  exact this

/-- each operation of the head, in the text's order. -/
theorem wp_region_kdTail {id : Nat} {Q : Exit → Act → World → Prop} {a0 : Act} {w : World} (n n0 : Nat) (hm : P.follows .mixedOrders = true) (hB : looseB l n = true) (hTB : tailB l n0 = true) (hd : ((l.take n0).all fun o => o.dst.isSome) = true) (hn : a0.tmps.size = n) (KL : List Kd) (hkl : KL.length ≤ n0)
    (hop : AskAll P l a0 w KL 0 (l.take n0)) (hend : ∀ a W, Below w.heap.size w W → Known l a0 (kT KL) (fun i => decide (i < n0)) a W → wpList P l.toArray Q (l.drop n0) a W) : (Code.region id l.toArray true).wp P Q a0 w := by
  refine wp_region_looseTail n n0 hm hB hTB hn (Below w.heap.size w) (kT KL) grows (Below.refl _ _).drew (fun _ W W' h1 h2 => h1.trans (h2.mono h1.size)) (fun _ j v W W' _ _ hR hT => (KL.getD j kany).st v W W' hR hT) (fun i o ho hnone => ?_) (fun i o hi ho => ?_) hend
  · intro v W hT
    by_cases hi : i < n0
    · have := List.all_eq_true.1 hd o (List.mem_of_getElem? (i := i) (by rw [List.getElem?_take_of_lt hi]; exact ho))
      rw [hnone] at this; cases this
    · unfold kT
      have : KL.getD i kany = kany := by simp [List.getElem?_eq_none (show KL.length ≤ i by omega)]
      rw [this]; trivial
  · have := AskAll.at hop i o (by rw [List.getElem?_take_of_lt hi]; exact ho)
    rwa [Nat.zero_add] at this
theorem Known.hval {n0 i s : Nat} {a0 a : Act} {KL : List Kd} {W : World} {c : Value} (h : Known l a0 (kT KL) (fun i => decide (i < n0)) a W) (hi : decide (i < n0) = true) (hb : (match l[i]? with | some oj => oj.dst == some s | none => false) = true) (hk : KL.getD i kany = kval c) : a.tmps[s]? = some c := by
  cases hj : l[i]? with
  | none => rw [hj] at hb; cases hb
  | some oj =>
    rw [hj] at hb
    obtain ⟨v, h1, h2⟩ := h.new i oj s hj hi (by simpa using hb)
    unfold kT at h2; rw [hk] at h2
    rw [h1]; exact congrArg some h2
theorem Known.hget {n0 i s : Nat} {a0 a : Act} {KL : List Kd} {W : World} (h : Known l a0 (kT KL) (fun i => decide (i < n0)) a W) (hi : decide (i < n0) = true) (hb : (match l[i]? with | some oj => oj.dst == some s | none => false) = true) : ∃ v, a.tmps[s]? = some v ∧ (KL.getD i kany).p v W := by
  cases hj : l[i]? with
  | none => rw [hj] at hb; cases hb
  | some oj =>
    rw [hj] at hb
    exact h.new i oj s hj hi (by simpa using hb)
theorem Known.hframe {n0 : Nat} {a0 a : Act} {T : Nat → Value → World → Prop} {W : World} (h : Known l a0 T (fun i => decide (i < n0)) a W) (vs : List Value) (hA : AllAt a (l.take n0) vs) : putAll a0 (l.take n0) vs = a :=
  putAll_eq (l.take n0) vs a0 h.size.symm (fun s hs => (h.old s (fun i o ho hi => hs o (List.mem_of_getElem? (i := i) (by rw [List.getElem?_take_of_lt (by simpa using hi)]; exact ho)))).symm) hA h.defers.symm
end
/-- a new block of m cells of type t, not ahead of B. -/
def kptr (B : Nat) (t : TypeId) (cs : Array Value) : Kd := ⟨fun v W => ∃ g, B ≤ g ∧ v = .pointer (some ⟨g, 0, none⟩) ∧ Blk W g t cs, fun _ _ _ hb ⟨g, h0, h1, h2⟩ => ⟨g, h0, h1, h2.below hb h2.lt⟩⟩
theorem giv_alloc {P : Program} {KL : List Kd} {i B : Nat} {o : Oper} {W : World} {a : Act} (hB : B ≤ W.heap.size) (t : TypeId) (cs : Array Value) (hrun : (execOp a.eval o).run P W = .ok (.value (.pointer (some ⟨W.heap.size, 0, none⟩))) (W.alloc (.cells cs t)))
    (hk : KL.getD i kany = kptr B t cs) : GivesT P (grows i W) (kT KL i) ((execOp a.eval o).run P W) := by
  rw [hrun]
  refine ⟨(Below.refl _ _).alloc (Nat.le_refl _) _, ?_⟩
  unfold kT; rw [hk]
  exact ⟨W.heap.size, hB, rfl, Blk.new _ _ _⟩
end Go.Proofs.YtilbebjjmnncdaaDoor
