/- A law for regions that draw their order, in which values may hang on the order (a new block's address): each operation i leaves a value of which T i holds in the world behind it; T j stays true whatever the others do. Then, in whatever order, all T hold at the end. No program in sight. -/
import Derived.Test.YtilbebjjmnncdaaDoorHold
namespace Go.Proofs.YtilbebjjmnncdaaDoor
open Go

section
variable {P : Program} {l : List Oper}

/-- how an operation may come out: the world meets R, the value T. -/
def GivesT (P : Program) (R : World → Prop) (T : Value → World → Prop) : Result Next → Prop
  | .ok (.value v) w' => R w' ∧ T v w'
  | .ok .skip w' => R w' ∧ T undef w'
  | .ok (.enter f args) w' => Calls P f args w' fun e w'' => ∃ v, e = .returned v ∧ R w'' ∧ T v w''
  | _ => False

/-- no operation writes the slot. -/
def noDst (l : List Oper) (s : Nat) : Bool := l.all fun o => o.dst != some s
/-- each slot is written once, and lies in the frame; each operation waits for elder ones alone. -/
def looseB (l : List Oper) (n : Nat) : Bool :=
  ((List.range l.length).all fun i => match l[i]? with
    | some o => (match o.dst with | some s => decide (s < n) && (List.range l.length).all (fun j => j == i || (match l[j]? with | some oj => oj.dst != some s | none => true)) | none => true) &&
        o.after.all (fun e => !Region.binds .any e || decide (e.on < i))
    | none => true)

theorem looseB_dst {n i j s : Nat} {o oj : Oper} (h : looseB l n = true) (hi : l[i]? = some o) (hs : o.dst = some s) (hj : l[j]? = some oj) (hsj : oj.dst = some s) : j = i := by
  have hil := (List.getElem?_eq_some_iff.1 hi).1
  have hjl := (List.getElem?_eq_some_iff.1 hj).1
  have h1 := List.all_eq_true.1 h i (List.mem_range.2 hil)
  simp only [hi, hs, Bool.and_eq_true] at h1
  have h2 := List.all_eq_true.1 h1.1.2 j (List.mem_range.2 hjl)
  simp only [hj, Bool.or_eq_true, beq_iff_eq] at h2
  rcases h2 with h2 | h2
  · exact h2
  · rw [hsj] at h2; simp at h2
theorem looseB_lt {n i s : Nat} {o : Oper} (h : looseB l n = true) (hi : l[i]? = some o) (hs : o.dst = some s) : s < n := by
  have hil := (List.getElem?_eq_some_iff.1 hi).1
  have h1 := List.all_eq_true.1 h i (List.mem_range.2 hil)
  simp only [hi, hs, Bool.and_eq_true, decide_eq_true_eq] at h1
  exact h1.1.1
theorem looseB_after {n i : Nat} {o : Oper} (h : looseB l n = true) (hi : l[i]? = some o) : ∀ e ∈ o.after, Region.binds .any e = true → e.on < i := by
  have hil := (List.getElem?_eq_some_iff.1 hi).1
  have h1 := List.all_eq_true.1 h i (List.mem_range.2 hil)
  simp only [hi, Bool.and_eq_true] at h1
  intro e he hb
  have h2 := Array.all_eq_true_iff_forall_mem.1 h1.2 e he
  simpa [hb] using h2

/-- how many are not listed yet. -/
def openN (n : Nat) (listed : Array Bool) : Nat := ((List.range n).filter fun i => listed.getD i true == false).length
theorem openN_set (n : Nat) (listed : Array Bool) (i : Nat) (hi : i < n) (hs : listed.size = n) (hu : listed.getD i true = false) : openN n listed = openN n (listed.setIfInBounds i true) + 1 := by
  unfold openN
  have key : ∀ m, (((List.range m).filter fun k => listed.getD k true == false).length = ((List.range m).filter fun k => (listed.setIfInBounds i true).getD k true == false).length + if i < m then 1 else 0) := by
    intro m
    induction m with
    | zero => simp
    | succ m ih =>
      rw [List.range_succ, List.filter_append, List.filter_append, List.length_append, List.length_append, ih]
      by_cases hm : m = i
      · subst hm
        have e1 : (listed.setIfInBounds m true).getD m true = true := by simp [hs, hi]
        rw [List.filter_cons, List.filter_cons, hu, e1]
        simp
      · have e1 : (listed.setIfInBounds i true).getD m true = listed.getD m true := by
          simp only [Array.getD_eq_getD_getElem?, Array.getElem?_setIfInBounds]
          rw [if_neg (fun h => hm h.symm)]
        have e2 : ([m].filter fun k => (listed.setIfInBounds i true).getD k true == false) = ([m].filter fun k => listed.getD k true == false) := by
          rw [List.filter_cons, List.filter_cons, e1]; rfl
        rw [e2]
        by_cases h1 : i < m
        · rw [if_pos h1, if_pos (by omega)]; omega
        · rw [if_neg h1, if_neg (by omega)]; omega
  rw [key n, if_pos hi]

theorem ready_of_open {n : Nat} {listed : Array Bool} (h : looseB l n = true) (hs : listed.size = l.length) (ho : openN l.length listed ≠ 0) : Region.ready .any l.toArray listed ≠ [] := by
  -- the first that is not listed waits for nothing
  have hex : ∃ i, i < l.length ∧ listed.getD i true = false := by
    unfold openN at ho
    have : ((List.range l.length).filter fun i => listed.getD i true == false) ≠ [] := fun e => ho (by rw [e]; rfl)
    obtain ⟨i, hi⟩ := List.exists_mem_of_ne_nil _ this
    rw [List.mem_filter, List.mem_range] at hi
    exact ⟨i, hi.1, by simpa using hi.2⟩
  have hmin : ∀ k, ∀ i, i ≤ k → i < l.length → listed.getD i true = false → ∃ m, m < l.length ∧ listed.getD m true = false ∧ ∀ j, j < m → listed.getD j true = true := by
    intro k
    induction k with
    | zero => intro i hi hl hu; exact ⟨i, hl, hu, fun j hj => by omega⟩
    | succ k ih =>
      intro i hi hl hu
      by_cases hall : ∀ j, j < i → listed.getD j true = true
      · exact ⟨i, hl, hu, hall⟩
      · have : ∃ j, j < i ∧ listed.getD j true = false := by
          refine Classical.byContradiction fun hc => hall fun j hj => ?_
          cases hj' : listed.getD j true with
          | true => rfl
          | false => exact absurd ⟨j, hj, hj'⟩ hc
        obtain ⟨j, hj, hj'⟩ := this
        exact ih j (by omega) (by omega) hj'
  obtain ⟨i, hi, hu⟩ := hex
  obtain ⟨m, hm, hmu, hall⟩ := hmin i i (Nat.le_refl _) hi hu
  have hmem : m ∈ Region.ready .any l.toArray listed := by
    rw [mem_ready]
    have hop : l.toArray[m]? = some l[m] := by simp [hm]
    refine ⟨hmu, l[m], hop, fun e he hb => ?_⟩
    have hlt := looseB_after h (List.getElem?_eq_getElem hm) e he hb
    have := hall e.on hlt
    have hsz : e.on < listed.size := by omega
    simp only [Array.getD_eq_getD_getElem?, Array.getElem?_eq_getElem hsz, Option.getD_some] at this ⊢
    exact this
  intro e
  rw [e] at hmem
  cases hmem

/-- what is known of a frame. -/
structure Known (l : List Oper) (a0 : Act) (T : Nat → Value → World → Prop) (L : Nat → Bool) (a : Act) (W : World) : Prop where
  size : a.tmps.size = a0.tmps.size
  defers : a.defers = a0.defers
  old : ∀ s, (∀ i o, l[i]? = some o → L i = true → o.dst ≠ some s) → a.tmps[s]? = a0.tmps[s]?
  new : ∀ i o s, l[i]? = some o → L i = true → o.dst = some s → ∃ v, a.tmps[s]? = some v ∧ T i v W
  mem : ∀ i o, l[i]? = some o → L i = true → o.dst = none → T i undef W

theorem Known.put {a0 a : Act} {T : Nat → Value → World → Prop} {listed : Array Bool} {W W' : World} {i n : Nat} {o : Oper} {v : Value} (hB : looseB l n = true) (hn : a0.tmps.size = n) (hi : l[i]? = some o) (hsz : listed.size = l.length)
    (h : Known l a0 T (fun j => listed.getD j false) a W) (hun : listed.getD i true = false) (hT : ∀ j u, j ≠ i → T j u W → T j u W') (hv : T i v W') (hvn : o.dst = none → T i undef W') :
    Known l a0 T (fun j => (listed.setIfInBounds i true).getD j false) (a.put o.dst v) W' := by
  have hil := (List.getElem?_eq_some_iff.1 hi).1
  have hL : ∀ j, (listed.setIfInBounds i true).getD j false = true ↔ j = i ∨ listed.getD j false = true := by
    intro j
    by_cases hj : i = j
    · subst hj; simp [hsz, hil]
    · simp only [Array.getD_eq_getD_getElem?, Array.getElem?_setIfInBounds]
      rw [if_neg hj]
      constructor
      · exact .inr
      · rintro (h | h)
        · exact absurd h.symm hj
        · exact h
  have hnot : listed.getD i false = false := by
    have : i < listed.size := by omega
    simp only [Array.getD_eq_getD_getElem?, Array.getElem?_eq_getElem this, Option.getD_some] at hun ⊢
    exact hun
  constructor
  · cases hd : o.dst with
    | none => simpa [Act.put] using h.size
    | some d => simpa [Act.put] using h.size
  · cases hd : o.dst with
    | none => simpa [Act.put] using h.defers
    | some d => simpa [Act.put] using h.defers
  · intro s hs
    have h1 := h.old s (fun j oj hj hl => hs j oj hj ((hL j).2 (.inr hl)))
    have h2 := hs i o hi ((hL i).2 (.inl rfl))
    cases hd : o.dst with
    | none => simpa [Act.put] using h1
    | some d =>
      have hne : d ≠ s := fun e => h2 (by rw [hd, e])
      simp only [Act.put, Array.getElem?_setIfInBounds]
      rw [if_neg hne]; exact h1
  · intro j oj s hj hl hs
    rcases (hL j).1 hl with rfl | hl'
    · have e1 : oj = o := Option.some.inj (hj.symm.trans hi)
      subst e1
      refine ⟨v, ?_, hv⟩
      have hlt := looseB_lt hB hj hs
      simp only [hs, Act.put, Array.getElem?_setIfInBounds]
      rw [if_pos trivial, if_pos (by rw [h.size]; omega)]
    · have hne : j ≠ i := fun e => by subst e; rw [hnot] at hl'; cases hl'
      obtain ⟨u, hu, hTu⟩ := h.new j oj s hj hl' hs
      refine ⟨u, ?_, hT j u hne hTu⟩
      cases hd : o.dst with
      | none => simpa [Act.put] using hu
      | some d =>
        have hds : d ≠ s := fun e => hne (looseB_dst hB hi (by rw [hd, e]) hj hs)
        simp only [Act.put, Array.getElem?_setIfInBounds]
        rw [if_neg hds]; exact hu
  · intro j oj hj hl hs
    rcases (hL j).1 hl with rfl | hl'
    · have e1 : oj = o := Option.some.inj (hj.symm.trans hi)
      subst e1
      exact hvn hs
    · have hne : j ≠ i := fun e => by subst e; rw [hnot] at hl'; cases hl'
      exact hT j undef hne (h.mem j oj hj hl' hs)

/-- what an operation is asked for. -/
def Asks (P : Program) (l : List Oper) (a0 : Act) (S : World → Prop) (T : Nat → Value → World → Prop) (R : Nat → World → World → Prop) (i : Nat) (o : Oper) : Prop :=
  ∀ (a : Act) (W : World), S W → (∀ s v, noDst l s = true → a0.tmps[s]? = some v → a.tmps[s]? = some v) → (∀ j, Region.waitsFor .any l.toArray i j = true → ∀ oj s, l[j]? = some oj → oj.dst = some s → ∃ v, a.tmps[s]? = some v ∧ T j v W) →
    (∀ j, Region.waitsFor .any l.toArray i j = true → ∀ oj, l[j]? = some oj → oj.dst = none → T j undef W) →
    (Region.wanted o (yielded l.toArray a.tmps) = true ∧ GivesT P (R i W) (T i) ((execOp a.eval o).run P W)) ∨ (Region.wanted o (yielded l.toArray a.tmps) = false ∧ T i undef W)

theorem wp_region_loose {id : Nat} {Q : Exit → Act → World → Prop} {a0 : Act} {w : World} (n : Nat) (hm : P.follows .mixedOrders = true) (hB : looseB l n = true) (hn : a0.tmps.size = n)
    (S : World → Prop) (T : Nat → Value → World → Prop) (R : Nat → World → World → Prop) (hS : S w.drew) (hRS : ∀ i W W', S W → R i W W' → S W') (hRT : ∀ i j v W W', j ≠ i → S W → R i W W' → T j v W → T j v W')
    (hdn : ∀ i o, l[i]? = some o → o.dst = none → ∀ v W, T i v W → T i undef W) (hop : ∀ i o, l[i]? = some o → Asks P l a0 S T R i o)
    (hend : ∀ a W, S W → Known l a0 T (fun _ => true) a W → Q .normal a W) : (Code.region id l.toArray true).wp P Q a0 w := by
  refine wp_region_any hm ?_
  have main : ∀ (f : Nat) (listed : Array Bool) (a : Act) (W : World), listed.size = l.length → openN l.length listed = f → S W → Known l a0 T (fun j => listed.getD j false) a W →
      (∀ j, j < l.length → listed.getD j false = true → True) → wpAny P .any l.toArray Q f listed a W := by
    intro f
    induction f with
    | zero =>
      intro listed a W hsz hf hSW hK _
      have hno : Region.ready .any l.toArray listed = [] := by
        refine Classical.byContradiction fun hc => ?_
        obtain ⟨j, hj⟩ := List.exists_mem_of_ne_nil _ hc
        obtain ⟨hu, o, ho, _⟩ := mem_ready.1 hj
        have hjl : j < l.length := by simpa using (Array.getElem?_eq_some_iff.1 ho).1
        have := openN_set l.length listed j hjl hsz hu
        omega
      refine ⟨hno, hend a W hSW ?_⟩
      have hall : ∀ j, j < l.length → listed.getD j false = true := by
        intro j hj
        have hjs : j < listed.size := by omega
        cases hu : listed.getD j true with
        | true =>
          simp only [Array.getD_eq_getD_getElem?, Array.getElem?_eq_getElem hjs, Option.getD_some] at hu ⊢
          exact hu
        | false =>
          have := openN_set l.length listed j hj hsz hu
          omega
      exact ⟨hK.size, hK.defers, fun s hs => hK.old s (fun i o hi _ => hs i o hi rfl), fun i o s hi _ hs => hK.new i o s hi (hall i (List.getElem?_eq_some_iff.1 hi).1) hs, fun i o hi _ hs => hK.mem i o hi (hall i (List.getElem?_eq_some_iff.1 hi).1) hs⟩
    | succ f ih =>
      intro listed a W hsz hf hSW hK _
      refine ⟨fun h => absurd h (ready_of_open hB hsz (by omega)), fun i hi => ?_⟩
      obtain ⟨hu, o, ho, hwait⟩ := mem_ready.1 hi
      have hio : l[i]? = some o := by simpa using ho
      have hil := (List.getElem?_eq_some_iff.1 hio).1
      have hstep : ∀ v W', R i W W' ∨ W' = W → T i v W' → wpAny P .any l.toArray Q f (listed.setIfInBounds i true) (a.put o.dst v) W' := by
        intro v W' hR hTv
        have hS' : S W' := by
          rcases hR with hR | rfl
          · exact hRS i W W' hSW hR
          · exact hSW
        refine ih _ _ _ (by simpa using hsz) (by have := openN_set l.length listed i hil hsz hu; omega) hS' ?_ (fun _ _ _ => trivial)
        refine hK.put hB hn hio hsz hu (fun j u hne hTj => ?_) hTv (fun hd => hdn i o hio hd v W' hTv)
        rcases hR with hR | rfl
        · exact hRT i j u W W' hne hSW hR hTj
        · exact hTj
      have hlist : ∀ j, Region.waitsFor .any l.toArray i j = true → listed.getD j false = true := by
        intro j hj
        obtain ⟨o', ho', e, he, hb, hon⟩ := Region.waitsFor_spec hj
        have e1 : o' = o := Option.some.inj (ho'.symm.trans ho)
        subst e1
        rw [← hon]; exact hwait e he hb
      have hask := hop i o hio a W hSW (fun s v hs hv => by
          rw [hK.old s (fun j oj hj _ hd => by
            have := List.all_eq_true.1 hs oj (List.mem_of_getElem? hj)
            rw [hd] at this; simp at this)]
          exact hv)
        (fun j hj oj s hoj hs => hK.new j oj s hoj (hlist j hj) hs) (fun j hj oj hoj hs => hK.mem j oj hoj (hlist j hj) hs)
      unfold wpOp
      simp only [ho]
      rcases hask with ⟨hw, hg⟩ | ⟨hw, hT⟩
      · rw [if_pos hw]
        left
        unfold Oper.wp
        generalize (execOp a.eval o).run P W = r at hg
        cases r with
        | ok x w' =>
          cases x <;> simp only [GivesT] at hg
          case value u => exact hstep _ _ (.inl hg.1) hg.2
          case skip => exact hstep _ _ (.inl hg.1) hg.2
          case enter f' args =>
            show Calls P f' args w' _
            refine hg.mono ?_
            rintro e w'' ⟨v, rfl, h1, h2⟩
            exact hstep _ _ (.inl h1) h2
        | halt x w' => simp only [GivesT] at hg
      · rw [if_neg (by rw [hw]; decide)]
        exact hstep _ _ (.inr rfl) hT
  have h0 : openN l.length (Array.replicate l.toArray.size false) = l.toArray.size := by
    unfold openN
    have : ((List.range l.length).filter fun i => (Array.replicate l.toArray.size false).getD i true == false) = List.range l.length := by
      apply List.filter_eq_self.2
      intro i hi
      rw [List.mem_range] at hi
      simp [hi]
    rw [this]; simp
  refine main _ _ _ _ (by simp) h0 hS ⟨rfl, rfl, fun s _ => rfl, fun i o s hi hl => ?_, fun i o hi hl => ?_⟩ (fun _ _ _ => trivial)
  · rw [getD_replicate_false] at hl; cases hl
  · rw [getD_replicate_false] at hl; cases hl
end
end Go.Proofs.YtilbebjjmnncdaaDoor
