/- The law of a drawn region with a tail, where the tail may write slots that the head reads. No program in sight. -/
import Derived.Test.YtdjjiblijbjobaaDoorRowW
namespace Go.Proofs.YtdjjiblijbjobaaDoor
open Go.RowKit

section
variable {P : Program} {l : List Oper}
/-- what an operation of the head is asked for. -/
def AsksH (P : Program) (l : List Oper) (n0 : Nat) (a0 : Act) (S : World → Prop) (T : Nat → Value → World → Prop) (R : Nat → World → World → Prop) (i : Nat) (o : Oper) : Prop :=
  ∀ (a : Act) (W : World), S W → (∀ s v, noDst (l.take n0) s = true → a0.tmps[s]? = some v → a.tmps[s]? = some v) → (∀ j, Region.waitsFor .any l.toArray i j = true → ∀ oj s, l[j]? = some oj → oj.dst = some s → ∃ v, a.tmps[s]? = some v ∧ T j v W) →
    (∀ j, Region.waitsFor .any l.toArray i j = true → ∀ oj, l[j]? = some oj → oj.dst = none → T j undef W) →
    (Region.wanted o (yielded l.toArray a.tmps) = true ∧ GivesT P (R i W) (T i) ((execOp a.eval o).run P W)) ∨ (Region.wanted o (yielded l.toArray a.tmps) = false ∧ T i undef W)
def AskAllH (P : Program) (l : List Oper) (n0 : Nat) (a0 : Act) (w : World) (KL : List Kd) : Nat → List Oper → Prop
  | _, [] => True
  | i, o :: rest => AsksH P l n0 a0 (Below w.heap.size w) (kT KL) grows i o ∧ AskAllH P l n0 a0 w KL (i + 1) rest
theorem AskAllH.at {n0 : Nat} {a0 : Act} {w : World} {KL : List Kd} : ∀ {r : List Oper} {k : Nat}, AskAllH P l n0 a0 w KL k r → ∀ i o, r[i]? = some o → AsksH P l n0 a0 (Below w.heap.size w) (kT KL) grows (k + i) o
  | [], _, _, i, o, h => by simp at h
  | x :: r, k, h, 0, o, ho => by
    simp only [List.getElem?_cons_zero, Option.some.injEq] at ho
    subst ho
    exact h.1
  | x :: r, k, h, i + 1, o, ho => by
    have := AskAllH.at h.2 i o (by simpa using ho)
    rwa [show k + 1 + i = k + (i + 1) by omega] at this
section
variable {a0 : Act} {w : World} {KL : List Kd} {i n0 : Nat} {o : Oper}
theorem asksH_mk (h : ∀ (a : Act) (W : World), Below w.heap.size w W → Had (l.take n0) a0 a → Dep l KL i a W → Region.wanted o (yielded l.toArray a.tmps) = true ∧ GivesT P (grows i W) (kT KL i) ((execOp a.eval o).run P W)) : AsksH P l n0 a0 (Below w.heap.size w) (kT KL) grows i o :=
  fun a W hS h1 h2 _ => .inl (h a W hS h1 h2)
theorem asksH_skip (h : ∀ (a : Act) (W : World), Below w.heap.size w W → Had (l.take n0) a0 a → Dep l KL i a W → Region.wanted o (yielded l.toArray a.tmps) = false ∧ kT KL i undef W) : AsksH P l n0 a0 (Below w.heap.size w) (kT KL) grows i o :=
  fun a W hS h1 h2 _ => .inr (h a W hS h1 h2)
end
theorem wp_region_looseTail2 {id : Nat} {Q : Exit → Act → World → Prop} {a0 : Act} {w : World} (n n0 : Nat) (hm : P.follows .mixedOrders = true) (hB : looseB l n = true) (hTB : tailB l n0 = true) (hn : a0.tmps.size = n)
    (S : World → Prop) (T : Nat → Value → World → Prop) (R : Nat → World → World → Prop) (hS : S w.drew) (hRS : ∀ i W W', S W → R i W W' → S W') (hRT : ∀ i j v W W', j ≠ i → S W → R i W W' → T j v W → T j v W')
    (hdn : ∀ i o, l[i]? = some o → o.dst = none → ∀ v W, T i v W → T i undef W) (hop : ∀ i o, i < n0 → l[i]? = some o → AsksH P l n0 a0 S T R i o)
    (hend : ∀ a W, S W → Known l a0 T (fun i => decide (i < n0)) a W → wpList P l.toArray Q (l.drop n0) a W) : (Code.region id l.toArray true).wp P Q a0 w := by
  simp only [tailB, Bool.and_eq_true, decide_eq_true_eq] at hTB
  obtain ⟨⟨⟨hlt, hsink⟩, hchain⟩, hseq⟩ := hTB
  refine wp_region_any hm ?_
  have main : ∀ (f : Nat) (listed : Array Bool) (a : Act) (W : World), HeadInv .any l.toArray n0 listed → openN n0 listed = f → S W → Known l a0 T (fun j => listed.getD j false) a W →
      wpAny P .any l.toArray Q (f + (l.length - n0)) listed a W := by
    intro f
    induction f with
    | zero =>
      intro listed a W inv hf hSW hK
      have hsz : listed.size = l.length := by simpa using inv.size
      have hall : ∀ j, j < n0 → listed.getD j false = true := by
        intro j hj
        have hjs : j < listed.size := by omega
        cases hu : listed.getD j true with
        | true =>
          simp only [Array.getD_eq_getD_getElem?, Array.getElem?_eq_getElem hjs, Option.getD_some] at hu ⊢
          exact hu
        | false =>
          have := openN_set' n0 listed j hj (by omega) hu
          omega
      have hlisted : listed = (List.replicate n0 true ++ List.replicate (l.length - n0) false).toArray := by
        apply Array.ext
        · simp; omega
        · intro i h1 h2
          by_cases hi : i < n0
          · have := hall i hi
            simp only [Array.getD_eq_getD_getElem?, Array.getElem?_eq_getElem h1, Option.getD_some] at this
            rw [this]
            simp [hi]
          · have := inv.tail i (by omega) (by simpa [hsz] using h1)
            simp only [Array.getD_eq_getD_getElem?, Array.getElem?_eq_getElem h1, Option.getD_some] at this
            rw [this]
            simp [List.getElem_append, hi]
      have hlen : (l.drop n0).length = l.length - n0 := by simp
      rw [Nat.zero_add, ← hlen]
      refine wpAny_of_seq (md := .any) (l.drop n0) n0 listed a W (fun j => by simp [List.getElem?_drop]) (by rw [hlen, hlisted]; exact hseq) (hend a W hSW ?_)
      have hiff : ∀ j, j < l.length → (listed.getD j false = true ↔ j < n0) := by
        intro j hj
        constructor
        · intro h
          rcases Nat.lt_or_ge j n0 with h' | h'
          · exact h'
          · have := getD_both (inv.tail j h' (by simpa using hj))
            rw [this] at h; cases h
        · exact hall j
      exact ⟨hK.size, hK.defers, fun s hs => hK.old s (fun i o hi hl => hs i o hi (by have := (hiff i (List.getElem?_eq_some_iff.1 hi).1).1 hl; simpa using this)),
        fun i o s hi hl hs => hK.new i o s hi ((hiff i (List.getElem?_eq_some_iff.1 hi).1).2 (by simpa using hl)) hs, fun i o hi hl hs => hK.mem i o hi ((hiff i (List.getElem?_eq_some_iff.1 hi).1).2 (by simpa using hl)) hs⟩
    | succ f ih =>
      intro listed a W inv hf hSW hK
      have hsz : listed.size = l.length := by simpa using inv.size
      rw [show f + 1 + (l.length - n0) = (f + (l.length - n0)) + 1 by omega]
      obtain ⟨i1, hi1, hu1⟩ := openN_lt (n := n0) (listed := listed) (by omega)
      have hopen : openN l.length listed ≠ 0 := by
        have := openN_set' l.length listed i1 (by omega) (by omega) hu1
        omega
      refine ⟨fun h => absurd h (ready_of_open hB hsz hopen), fun i hi => ?_⟩
      have hin : i < n0 := by
        rcases Nat.lt_or_ge i n0 with h | h
        · exact h
        · exact absurd hi (tail_waits hsink hchain (by simpa using hlt) inv _ i1 rfl hi1 hu1 i h)
      obtain ⟨hu, o, ho, hwait⟩ := mem_ready.1 hi
      have hio : l[i]? = some o := by simpa using ho
      have hil := (List.getElem?_eq_some_iff.1 hio).1
      have hstep : ∀ v W', R i W W' ∨ W' = W → T i v W' → wpAny P .any l.toArray Q (f + (l.length - n0)) (listed.setIfInBounds i true) (a.put o.dst v) W' := by
        intro v W' hR hTv
        have hS' : S W' := by
          rcases hR with hR | rfl
          · exact hRS i W W' hSW hR
          · exact hSW
        refine ih _ _ _ (inv.set hi hin) (by have := openN_set' n0 listed i hin (by omega) hu; omega) hS' ?_
        refine hK.put hB hn hio hsz hu (fun j u hne hTj => ?_) hTv (fun hd => hdn i o hio hd v W' hTv)
        rcases hR with hR | rfl
        · exact hRT i j u W W' hne hSW hR hTj
        · exact hTj
      have hlist : ∀ j, Region.waitsFor .any l.toArray i j = true → listed.getD j false = true := by
        intro j hj
        obtain ⟨o', ho', e, he, hb, hon⟩ := Region.waitsFor_spec hj
        have e1 : o' = o := Option.some.inj (ho'.symm.trans ho)
        subst e1
        rw [← hon]; exact hwait e he hb
      have hask := hop i o hin hio a W hSW (fun s v hs hv => by
          rw [hK.old s (fun j oj hj hl hd => by
            have hjn : j < n0 := by
              rcases Nat.lt_or_ge j n0 with h' | h'
              · exact h'
              · have := getD_both (inv.tail j h' (by simpa using (List.getElem?_eq_some_iff.1 hj).1))
                rw [this] at hl; cases hl
            have := List.all_eq_true.1 hs oj (List.mem_of_getElem? (i := j) (by rw [List.getElem?_take_of_lt hjn]; exact hj))
            rw [hd] at this; simp at this)]
          exact hv)
        (fun j hj oj s hoj hs => hK.new j oj s hoj (hlist j hj) hs) (fun j hj oj hoj hs => hK.mem j oj hoj (hlist j hj) hs)
      unfold wpOp
      simp only [ho]
      rcases hask with ⟨hw, hg⟩ | ⟨hw, hT⟩
      · rw [if_pos hw]
        left
        unfold Oper.wp
        generalize (execOp a.eval o).run P W = r at hg
        cases r with
        | ok x w' =>
          cases x <;> simp only [GivesT] at hg
          case value u => exact hstep _ _ (.inl hg.1) hg.2
          case skip => exact hstep _ _ (.inl hg.1) hg.2
          case enter f' args =>
            show Calls P f' args w' _
            refine hg.mono ?_
            rintro e w'' ⟨v, rfl, h1, h2⟩
            exact hstep _ _ (.inl h1) h2
        | halt x w' => simp only [GivesT] at hg
      · rw [if_neg (by rw [hw]; decide)]
        exact hstep _ _ (.inr rfl) hT
  have h0 : openN n0 (Array.replicate l.toArray.size false) = n0 := by
    unfold openN
    have : ((List.range n0).filter fun i => (Array.replicate l.toArray.size false).getD i true == false) = List.range n0 := by
      apply List.filter_eq_self.2
      intro i hi
      rw [List.mem_range] at hi
      have : i < l.length := by omega
      simp [this]
    rw [this]; simp
  have e : l.toArray.size = n0 + (l.length - n0) := by simp; omega
  have := main n0 (Array.replicate l.toArray.size false) a0 w.drew (headInv0 n0) h0 hS ⟨rfl, rfl, fun s _ => rfl, fun i o s hi hl => (by rw [getD_replicate_false] at hl; cases hl), fun i o hi hl => (by rw [getD_replicate_false] at hl; cases hl)⟩
  rw [e] at this ⊢
  exact this

/-- each operation of the head, in the text's order. -/
theorem wp_region_kdTail2 {id : Nat} {Q : Exit → Act → World → Prop} {a0 : Act} {w : World} (n n0 : Nat) (hm : P.follows .mixedOrders = true) (hB : looseB l n = true) (hTB : tailB l n0 = true) (hd : ((l.take n0).all fun o => o.dst.isSome) = true) (hn : a0.tmps.size = n) (KL : List Kd) (hkl : KL.length ≤ n0)
    (hop : AskAllH P l n0 a0 w KL 0 (l.take n0)) (hend : ∀ a W, Below w.heap.size w W → Known l a0 (kT KL) (fun i => decide (i < n0)) a W → wpList P l.toArray Q (l.drop n0) a W) : (Code.region id l.toArray true).wp P Q a0 w := by
  refine wp_region_looseTail2 n n0 hm hB hTB hn (Below w.heap.size w) (kT KL) grows (Below.refl _ _).drew (fun _ W W' h1 h2 => h1.trans (h2.mono h1.size)) (fun _ j v W W' _ _ hR hT => (KL.getD j kany).st v W W' hR hT) (fun i o ho hnone => ?_) (fun i o hi ho => ?_) hend
  · intro v W hT
    by_cases hi : i < n0
    · have := List.all_eq_true.1 hd o (List.mem_of_getElem? (i := i) (by rw [List.getElem?_take_of_lt hi]; exact ho))
      rw [hnone] at this; cases this
    · unfold kT
      have : KL.getD i kany = kany := by simp [List.getElem?_eq_none (show KL.length ≤ i by omega)]
      rw [this]; trivial
  · have := AskAllH.at hop i o (by rw [List.getElem?_take_of_lt hi]; exact ho)
    rwa [Nat.zero_add] at this
end
end Go.Proofs.YtdjjiblijbjobaaDoor
