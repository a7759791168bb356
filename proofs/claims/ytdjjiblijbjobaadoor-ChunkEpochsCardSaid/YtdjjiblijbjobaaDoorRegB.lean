/- Laws and walks that many claims share: Late, NewR, Defer. -/
import Derived.Test.YtdjjiblijbjobaaDoorBaseB
import Derived.Defers
import Derived.Test.YtdjjiblijbjobaaDoorOpsB
/- Drawn regions whose store into one block may come ahead of reads: all other operations have one value each. No program in sight. -/
namespace Go.Proofs.YtdjjiblijbjobaaDoor
open Go.RowKit
variable {D : List Deferred}

section
variable {P : Program} {l : List Oper} {w w0 W : World} {M : List (Nat × (Obj → Prop))} {j g m : Nat} {t : TypeId} {old cs : Array Value}
def isAny (t : TypeId) : Obj → Prop := fun ob => ∃ cs, ob = .cells cs t (0, 0)
theorem Alm.grown (h : Alm w [(g, t, m)] W) : w.grownBy W (some g) :=
  ⟨h.os, h.tape, h.output, h.size, fun k hk hne => h.old k hk fun x hx => by
    simp only [List.mem_cons, List.not_mem_nil, or_false] at hx
    subst hx
    exact fun e => hne (by rw [← e])⟩
theorem Mem.alm (hM : Mem w0 M w) (j : Nat) (e : M[j]? = some (g, isB t old)) (hS : Alm w [(g, t, m)] W) : Mem w0 (M.set j (g, isAny t)) W := by
  obtain ⟨_, cs, hB, _⟩ := hS.row (g, t, m) (by simp)
  exact hM.upd j e hS.grown ⟨_, hB, cs, rfl⟩
def onlyB (l : List Oper) (q : Nat) : Bool := (List.range l.length).all fun i => match l[i]? with | some o => o.dst.isSome || i == q | none => true
end
section
variable {P : Program} {l : List Oper} {a0 : Act} {w : World} {rs : List (Nat × TypeId × Nat)} {KL : List (Kr w.heap.size)} {i : Nat} {o : Oper} {W : World} {a : Act}
end
end Go.Proofs.YtdjjiblijbjobaaDoor
/- Drawn regions that make blocks and store into them: all other operations have one value each. No program in sight. -/
namespace Go.Proofs.YtdjjiblijbjobaaDoor
open Go.RowKit

section
variable {P : Program} {l : List Oper}
/-- whatever holds step by step, in whatever order. -/
theorem wp_region_inv {id : Nat} {Q : Exit → Act → World → Prop} {a0 : Act} {w : World} (n : Nat) (hm : P.follows .mixedOrders = true) (hB : looseB l n = true) (Inv : (Nat → Bool) → Act → World → Prop) (h0 : Inv (fun _ => false) a0 w.drew)
    (hstep : ∀ (L : Nat → Bool) a W i o, Inv L a W → l[i]? = some o → L i = false → (∀ j, Region.waitsFor .any l.toArray i j = true → L j = true) →
      Region.wanted o (yielded l.toArray a.tmps) = true ∧ GivesT P (fun _ => True) (fun v W' => Inv (fun j => L j || j == i) (a.put o.dst v) W') ((execOp a.eval o).run P W))
    (hend : ∀ L a W, (∀ j, j < l.length → L j = true) → Inv L a W → Q .normal a W) : (Code.region id l.toArray true).wp P Q a0 w := by
  refine wp_region_any hm ?_
  have main : ∀ (f : Nat) (listed : Array Bool) (a : Act) (W : World), listed.size = l.length → openN l.length listed = f → Inv (fun j => listed.getD j false) a W → wpAny P .any l.toArray Q f listed a W := by
    intro f
    induction f with
    | zero =>
      intro listed a W hsz hf hI
      have hno : Region.ready .any l.toArray listed = [] := by
        refine Classical.byContradiction fun hc => ?_
        obtain ⟨j, hj⟩ := List.exists_mem_of_ne_nil _ hc
        obtain ⟨hu, o, ho, _⟩ := mem_ready.1 hj
        have hjl : j < l.length := by simpa using (Array.getElem?_eq_some_iff.1 ho).1
        have := openN_set l.length listed j hjl hsz hu
        omega
      refine ⟨hno, hend _ a W (fun j hj => ?_) hI⟩
      have hjs : j < listed.size := by omega
      cases hu : listed.getD j true with
      | true =>
        simp only [Array.getD_eq_getD_getElem?, Array.getElem?_eq_getElem hjs, Option.getD_some] at hu ⊢
        exact hu
      | false =>
        have := openN_set l.length listed j hj hsz hu
        omega
    | succ f ih =>
      intro listed a W hsz hf hI
      refine ⟨fun h => absurd h (ready_of_open hB hsz (by omega)), fun i hi => ?_⟩
      obtain ⟨hu, o, ho, hwait⟩ := mem_ready.1 hi
      have hio : l[i]? = some o := by simpa using ho
      have hil := (List.getElem?_eq_some_iff.1 hio).1
      have his : i < listed.size := by omega
      have hL0 : listed.getD i false = false := by
        simp only [Array.getD_eq_getD_getElem?, Array.getElem?_eq_getElem his, Option.getD_some] at hu ⊢
        exact hu
      have hext : (fun j => (listed.setIfInBounds i true).getD j false) = fun j => listed.getD j false || j == i := by
        funext j
        simp only [Array.getD_eq_getD_getElem?, Array.getElem?_setIfInBounds]
        by_cases hj : i = j
        · subst hj; simp [his]
        · rw [if_neg hj, beq_eq_false_iff_ne.2 (fun e => hj e.symm), Bool.or_false]
      have hlist : ∀ j, Region.waitsFor .any l.toArray i j = true → listed.getD j false = true := by
        intro j hj
        obtain ⟨o', ho', e, he, hb, hon⟩ := Region.waitsFor_spec hj
        have e1 : o' = o := Option.some.inj (ho'.symm.trans ho)
        subst e1
        rw [← hon]; exact hwait e he hb
      have go : ∀ v W', Inv (fun j => listed.getD j false || j == i) (a.put o.dst v) W' → wpAny P .any l.toArray Q f (listed.setIfInBounds i true) (a.put o.dst v) W' := by
        intro v W' h
        exact ih _ _ _ (by simpa using hsz) (by have := openN_set l.length listed i hil hsz hu; omega) (by rw [hext]; exact h)
      obtain ⟨hw, hg⟩ := hstep _ a W i o hI hio hL0 hlist
      unfold wpOp
      simp only [ho]
      rw [if_pos hw]
      left
      unfold Oper.wp
      generalize (execOp a.eval o).run P W = r at hg
      cases r with
      | ok x w' =>
        cases x <;> simp only [GivesT] at hg
        case value u => exact go _ _ hg.2
        case skip => exact go _ _ hg.2
        case enter f' args =>
          show Calls P f' args w' _
          refine hg.mono ?_
          rintro e w'' ⟨v, rfl, _, h2⟩
          exact go _ _ h2
      | halt x w' => simp only [GivesT] at hg
  have h1 : openN l.length (Array.replicate l.toArray.size false) = l.toArray.size := by
    unfold openN
    have : ((List.range l.length).filter fun i => (Array.replicate l.toArray.size false).getD i true == false) = List.range l.length := by
      apply List.filter_eq_self.2
      intro i hi
      rw [List.mem_range] at hi
      simp [hi]
    rw [this]; simp
  refine main _ _ _ _ (by simp) h1 ?_
  have e : (fun j => (Array.replicate l.toArray.size false).getD j false) = fun _ => false := by funext j; exact getD_replicate_false _ _
  rw [e]
  exact h0
theorem put_same {a : Act} {s : Nat} {v : Value} (h : s < a.tmps.size) : (a.put (some s) v).tmps[s]? = some v := by simp [Act.put, h]
theorem put_ne {a : Act} {s s2 : Nat} {v : Value} (h : s ≠ s2) : (a.put (some s) v).tmps[s2]? = a.tmps[s2]? := by
  simp only [Act.put, Array.getElem?_setIfInBounds]
  rw [if_neg h]
theorem put_size {a : Act} {s : Option Nat} {v : Value} : (a.put s v).tmps.size = a.tmps.size := by cases s <;> simp [Act.put]
theorem put_defers {a : Act} {s : Option Nat} {v : Value} : (a.put s v).defers = a.defers := by cases s <;> simp [Act.put]
/-- a block that is made by operation iA (its address lies in the slot), and filled by operation iS. -/
structure NewD where
  iA : Nat
  slot : Nat
  iS : Nat
  t : TypeId
  z : Array Value
  cs : Array Value
structure NewI (l : List Oper) (n : Nat) (a0 : Act) (w0 : World) (M : List (Nat × (Obj → Prop))) (VL : List (Option Value)) (SL : List (Option (List (List UInt8)))) (AL : List NewD) (L : Nat → Bool) (a : Act) (W : World) (gs : Nat → Nat) : Prop where
  size : a.tmps.size = n
  defers : a.defers = a0.defers
  had : Had l a0 a
  val : ∀ (i : Nat) (o : Oper) (s : Nat) (c : Value), l[i]? = some o → o.dst = some s → L i = true → VL.getD i none = some c → a.tmps[s]? = some c
  str : ∀ (i : Nat) (o : Oper) (s : Nat) (X : List (List UInt8)), l[i]? = some o → o.dst = some s → L i = true → SL.getD i none = some X → (∀ d ∈ AL, L d.iS = false) → ∃ v, a.tmps[s]? = some v ∧ Strs W v X
  closed : ∀ d ∈ AL, L d.iS = true → ∀ j, Region.waitsFor .any l.toArray d.iS j = true → L j = true
  mem : Mem w0 M W
  ord : ∀ (x : Nat) (d : NewD), AL[x]? = some d → L d.iS = true → L d.iA = true
  blk : ∀ (x : Nat) (d : NewD), AL[x]? = some d → L d.iA = true → a.tmps[d.slot]? = some (.pointer (some ⟨gs x, 0, none⟩)) ∧ w0.heap.size ≤ gs x ∧ Blk W (gs x) d.t (cond (L d.iS) d.cs d.z) ∧ ∀ y ∈ M, y.1 ≠ gs x
  apart : ∀ (x y : Nat) (d e : NewD), AL[x]? = some d → AL[y]? = some e → x ≠ y → L d.iA = true → L e.iA = true → gs x ≠ gs y
/-- what is asked of an operation: a value, a new block, or a store into one. -/
inductive AskN (P : Program) (l : List Oper) (a0 : Act) (w0 : World) (M : List (Nat × (Obj → Prop))) (VL : List (Option Value)) (SL : List (Option (List (List UInt8)))) (AL : List NewD) (i : Nat) (o : Oper) : Prop
  | val (s : Nat) (T : Value → World → Prop) (hs : o.dst = some s) (hT : ∀ v W, T v W → (∀ c, VL.getD i none = some c → v = c) ∧ ∀ X, SL.getD i none = some X → Strs W v X) (hA : ∀ d ∈ AL, d.iA ≠ i ∧ d.iS ≠ i)
      (h : ∀ (a : Act) (W : World), Mem w0 M W → Had l a0 a → (∀ (j s : Nat) (c : Value), depB l i j s = true → VL.getD j none = some c → a.tmps[s]? = some c) →
        ((∀ d ∈ AL, Region.waitsFor .any l.toArray d.iS i = true) → ∀ (j s : Nat) (X : List (List UInt8)), depB l i j s = true → SL.getD j none = some X → ∃ v, a.tmps[s]? = some v ∧ Strs W v X) → Region.wanted o (yielded l.toArray a.tmps) = true ∧ GivesT P (Below W.heap.size W) T ((execOp a.eval o).run P W))
  | new (x : Nat) (d : NewD) (hx : AL[x]? = some d) (hi : d.iA = i) (hs : o.dst = some d.slot) (hv : VL.getD i none = none) (hsl : SL.getD i none = none) (hS : ∀ d ∈ AL, d.iS ≠ i) (hA : ∀ (y : Nat) (e : NewD), AL[y]? = some e → e.iA = i → y = x)
      (h : ∀ (a : Act) (W : World), Region.wanted o (yielded l.toArray a.tmps) = true ∧ (execOp a.eval o).run P W = .ok (.value (.pointer (some ⟨W.heap.size, 0, none⟩))) (W.alloc (.cells d.z d.t)))
  | put (x : Nat) (d : NewD) (hx : AL[x]? = some d) (hi : d.iS = i) (hs : o.dst = none) (hA : ∀ d ∈ AL, d.iA ≠ i) (hS : ∀ (y : Nat) (e : NewD), AL[y]? = some e → e.iS = i → y = x) (hw : Region.waitsFor .any l.toArray i d.iA = true) (m : Nat) (ty : TypeId) (X Y : Operand) (hop : o.op = .store ty X Y) (hX : X = .tmp d.slot)
      (hY : ∀ a : Act, Had l a0 a → (∀ (j s : Nat) (c : Value), depB l i j s = true → VL.getD j none = some c → a.tmps[s]? = some c) → a.eval Y = .agg d.cs) (hg : o.guard = none) (hsz : (P.info? ty).map (·.size) = some m) (hc : d.cs.size = m) (hz : d.z.size = m) (h1 : d.cs.all (·.oneCell') = true)
theorem Mem.far {w0 W W' : World} {M : List (Nat × (Obj → Prop))} {g : Nat} (h : Mem w0 M W) (hg : w0.heap.size ≤ g) (hfar : ∀ y ∈ M, y.1 ≠ g) (hgr : W.grownBy W' (some g)) : Mem w0 M W' := by
  refine ⟨⟨hgr.os.trans h.below.os, hgr.tape.trans h.below.tape, hgr.output.trans h.below.output, Nat.le_trans h.below.size hgr.size, fun k hk => (hgr.block k (Nat.lt_of_lt_of_le hk h.below.size) (fun e => by injection e with e; omega)).trans (h.below.block k hk)⟩, fun x hx => ?_, h.nd⟩
  obtain ⟨h1, ob, h2, h3⟩ := h.has x hx
  exact ⟨h1, ob, (hgr.block _ (lt_of_ob h2) (fun e => hfar x hx (by injection e))).trans h2, h3⟩
def AskAllN (P : Program) (l : List Oper) (a0 : Act) (w0 : World) (M : List (Nat × (Obj → Prop))) (VL : List (Option Value)) (SL : List (Option (List (List UInt8)))) (AL : List NewD) : Nat → List Oper → Prop
  | _, [] => True
  | i, o :: rest => AskN P l a0 w0 M VL SL AL i o ∧ AskAllN P l a0 w0 M VL SL AL (i + 1) rest
theorem AskAllN.at {a0 : Act} {w0 : World} {M : List (Nat × (Obj → Prop))} {VL : List (Option Value)} {SL : List (Option (List (List UInt8)))} {AL : List NewD} : ∀ {r : List Oper} {k : Nat}, AskAllN P l a0 w0 M VL SL AL k r → ∀ i o, r[i]? = some o → AskN P l a0 w0 M VL SL AL (k + i) o
  | [], _, _, i, o, h => by simp at h
  | x :: r, k, h, 0, o, ho => by
    simp only [List.getElem?_cons_zero, Option.some.injEq] at ho
    subst ho
    exact h.1
  | x :: r, k, h, i + 1, o, ho => by
    have := AskAllN.at h.2 i o (by simpa using ho)
    rwa [show k + 1 + i = k + (i + 1) by omega] at this
theorem wp_region_new {id : Nat} {Q : Exit → Act → World → Prop} {a0 : Act} {w w0 : World} {M : List (Nat × (Obj → Prop))} (n : Nat) (VL : List (Option Value)) (SL : List (Option (List (List UInt8)))) (AL : List NewD) (hm : P.follows .mixedOrders = true) (hB : looseB l n = true) (hn : a0.tmps.size = n) (hM : Mem w0 M w)
    (hAd : ∀ d ∈ AL, d.iS < l.length ∧ ∃ o, l[d.iA]? = some o ∧ o.dst = some d.slot) (hop : AskAllN P l a0 w0 M VL SL AL 0 l)
    (hend : ∀ (a : Act) (W : World) (gs : Nat → Nat), NewI l n a0 w0 M VL SL AL (fun _ => true) a W gs → Q .normal a W) : (Code.region id l.toArray true).wp P Q a0 w := by
  refine wp_region_inv n hm hB (fun L a W => ∃ gs, NewI l n a0 w0 M VL SL AL L a W gs) ⟨fun _ => 0, hn, rfl, fun s v _ h => h, fun i o s c _ _ h => (by cases h), fun i o s X _ _ h => (by cases h), fun d _ h => (by cases h), hM.drew, fun x d _ h => (by cases h), fun x d _ h => (by cases h), fun x y d e _ _ _ h => by cases h⟩ ?_ ?_
  · rintro L a W i o ⟨gs, I⟩ hio hLi hwait
    have hAt := AskAllN.at hop i o hio
    rw [Nat.zero_add] at hAt
    have hdep : ∀ j s c, depB l i j s = true → VL.getD j none = some c → a.tmps[s]? = some c := by
      intro j s c hb hc
      simp only [depB, Bool.and_eq_true] at hb
      obtain ⟨h1, h2⟩ := hb
      cases hj : l[j]? with
      | none => rw [hj] at h2; cases h2
      | some oj =>
        rw [hj] at h2
        exact I.val j oj s c hj (by simpa using h2) (hwait j h1) hc
    have hdepS : (∀ d ∈ AL, Region.waitsFor .any l.toArray d.iS i = true) → ∀ (j s : Nat) (X : List (List UInt8)), depB l i j s = true → SL.getD j none = some X → ∃ v, a.tmps[s]? = some v ∧ Strs W v X := by
      intro hW j s X hb hc
      simp only [depB, Bool.and_eq_true] at hb
      obtain ⟨h1, h2⟩ := hb
      cases hj : l[j]? with
      | none => rw [hj] at h2; cases h2
      | some oj =>
        rw [hj] at h2
        refine I.str j oj s X hj (by simpa using h2) (hwait j h1) hc fun d hd => ?_
        cases hq : L d.iS with
        | false => rfl
        | true => have := I.closed d hd hq i (hW d hd); rw [hLi] at this; cases this
    have hor : ∀ j, (L j || j == i) = true → j ≠ i → L j = true := by
      intro j h hne
      rw [beq_eq_false_iff_ne.2 hne, Bool.or_false] at h
      exact h
    cases hAt with
    | val s T hs hT hA h =>
      obtain ⟨hw, hg⟩ := h a W I.mem I.had hdep hdepS
      refine ⟨hw, ?_⟩
      have hsn : s < a.tmps.size := by rw [I.size]; exact looseB_lt hB hio hs
      have key : ∀ v W', Below W.heap.size W W' → T v W' → ∃ gs, NewI l n a0 w0 M VL SL AL (fun j => L j || j == i) (a.put o.dst v) W' gs := by
        intro v W' hb hTv
        rw [hs]
        refine ⟨gs, by rw [put_size]; exact I.size, by rw [put_defers]; exact I.defers, fun s' v' h1 h2 => ?_, fun j oj s' c' hj hd hL hv => ?_, fun j oj s' X hj hd hL hv hno => ?_, fun d hd hL j hj => ?_, I.mem.grow hb, fun x d hx hL => ?_, fun x d hx hL => ?_, fun x y d e hx hy hne h1 h2 => ?_⟩
        · have : s ≠ s' := by
            rintro rfl
            have := List.all_eq_true.1 h1 o (List.mem_of_getElem? hio)
            rw [hs] at this
            simp at this
          rw [put_ne this]
          exact I.had s' v' h1 h2
        · by_cases e : j = i
          · subst e
            have e1 : oj = o := Option.some.inj (hj.symm.trans hio)
            subst e1
            have e2 : s' = s := Option.some.inj (hd.symm.trans hs)
            subst e2
            rw [put_same hsn, (hT v W' hTv).1 c' hv]
          · have : s ≠ s' := by
              rintro rfl
              exact e (looseB_dst hB hio hs hj hd)
            rw [put_ne this]
            exact I.val j oj s' c' hj hd (hor j hL e) hv
        · by_cases e : j = i
          · subst e
            have e1 : oj = o := Option.some.inj (hj.symm.trans hio)
            subst e1
            have e2 : s' = s := Option.some.inj (hd.symm.trans hs)
            subst e2
            exact ⟨v, put_same hsn, (hT v W' hTv).2 X hv⟩
          · have : s ≠ s' := by
              rintro rfl
              exact e (looseB_dst hB hio hs hj hd)
            rw [put_ne this]
            obtain ⟨u, h1, h2⟩ := I.str j oj s' X hj hd (hor j hL e) hv fun d hd => by
              have := hno d hd
              simp only [Bool.or_eq_false_iff] at this
              exact this.1
            exact ⟨u, h1, h2.below hb⟩
        · have := I.closed d hd (hor _ hL (hA d hd).2) j hj
          simp [this]
        · have hne := hA d (List.mem_of_getElem? hx)
          have := I.ord x d hx (hor _ hL hne.2)
          simp [this]
        · have hne := hA d (List.mem_of_getElem? hx)
          obtain ⟨b1, b2, b3, b4⟩ := I.blk x d hx (hor _ hL hne.1)
          obtain ⟨_, oA, hoA, hdA⟩ := hAd d (List.mem_of_getElem? hx)
          refine ⟨?_, b2, ?_, b4⟩
          · rw [put_ne (fun e => hne.1 (looseB_dst hB hio hs hoA (by rw [hdA, e])))]
            exact b1
          · rw [beq_eq_false_iff_ne.2 hne.2, Bool.or_false]
            exact b3.below hb b3.lt
        · exact I.apart x y d e hx hy hne (hor _ h1 (hA d (List.mem_of_getElem? hx)).1) (hor _ h2 (hA e (List.mem_of_getElem? hy)).1)
      generalize (execOp a.eval o).run P W = r at hg
      cases r with
      | ok x w' =>
        cases x <;> simp only [GivesT] at hg
        case value u => exact ⟨trivial, key _ _ hg.1 hg.2⟩
        case skip => exact ⟨trivial, key _ _ hg.1 hg.2⟩
        case enter f' args =>
          show Calls P f' args w' _
          refine hg.mono ?_
          rintro e w'' ⟨v, rfl, h1, h2⟩
          exact ⟨v, rfl, trivial, key _ _ h1 h2⟩
      | halt x w' => simp only [GivesT] at hg
    | new x d hx hi hs hv hsl hS hA h =>
      obtain ⟨hw, hr⟩ := h a W
      refine ⟨hw, ?_⟩
      rw [hr]
      have hb : Below W.heap.size W (W.alloc (.cells d.z d.t)) := (Below.refl _ _).alloc (Nat.le_refl _) _
      have hsn : d.slot < a.tmps.size := by rw [I.size]; exact looseB_lt hB hio hs
      refine ⟨trivial, fun y => if y = x then W.heap.size else gs y, by rw [put_size]; exact I.size, by rw [put_defers]; exact I.defers, fun s' v' h1 h2 => ?_, fun j oj s' c' hj hd hL hv' => ?_, fun j oj s' X hj hd hL hv' hno => ?_, fun d' hd' hL j hj => ?_, I.mem.grow hb, fun y e hy hL => ?_, fun y e hy hL => ?_, fun y y2 e e2 hy hy2 hne h1 h2 => ?_⟩
      · have : d.slot ≠ s' := by
          rintro rfl
          have := List.all_eq_true.1 h1 o (List.mem_of_getElem? hio)
          rw [hs] at this
          simp at this
        rw [hs, put_ne this]
        exact I.had s' v' h1 h2
      · by_cases e : j = i
        · subst e; rw [hv] at hv'; cases hv'
        · have : d.slot ≠ s' := by
            rintro rfl
            exact e (looseB_dst hB hio hs hj hd)
          rw [hs, put_ne this]
          exact I.val j oj s' c' hj hd (hor j hL e) hv'
      · by_cases e : j = i
        · subst e; rw [hsl] at hv'; cases hv'
        · have : d.slot ≠ s' := by
            rintro rfl
            exact e (looseB_dst hB hio hs hj hd)
          rw [hs, put_ne this]
          obtain ⟨u, q1, q2⟩ := I.str j oj s' X hj hd (hor j hL e) hv' fun d' hd' => by
            have := hno d' hd'
            simp only [Bool.or_eq_false_iff] at this
            exact this.1
          exact ⟨u, q1, q2.below hb⟩
      · have := I.closed d' hd' (hor _ hL (hS d' hd')) j hj
        simp [this]
      · have := I.ord y e hy (hor _ hL (hS e (List.mem_of_getElem? hy)))
        simp [this]
      · by_cases he : y = x
        · subst he
          have e1 : e = d := Option.some.inj (hy.symm.trans hx)
          subst e1
          have hLS : L e.iS = false := by
            cases hq : L e.iS with
            | false => rfl
            | true => have := I.ord y e hy hq; rw [hi, hLi] at this; cases this
          rw [if_pos rfl, hs, put_same hsn]
          refine ⟨rfl, I.mem.below.size, ?_, fun z hz => Nat.ne_of_lt (I.mem.lt hz)⟩
          rw [hLS, beq_eq_false_iff_ne.2 (hS e (List.mem_of_getElem? hy))]
          exact Blk.new _ _ _
        · have hne : e.iA ≠ i := fun q => he (hA y e hy q)
          obtain ⟨b1, b2, b3, b4⟩ := I.blk y e hy (hor _ hL hne)
          obtain ⟨_, oA, hoA, hdA⟩ := hAd e (List.mem_of_getElem? hy)
          rw [if_neg he]
          refine ⟨?_, b2, ?_, b4⟩
          · rw [hs, put_ne (fun q => hne (looseB_dst hB hio hs hoA (by rw [hdA, q])))]
            exact b1
          · rw [beq_eq_false_iff_ne.2 (hS e (List.mem_of_getElem? hy)), Bool.or_false]
            exact b3.below hb b3.lt
      · by_cases q1 : y = x
        · have q2 : y2 ≠ x := fun q => hne (q1.trans q.symm)
          rw [if_pos q1, if_neg q2]
          have hb2 := (I.blk y2 e2 hy2 (hor _ h2 (fun q => q2 (hA y2 e2 hy2 q)))).2.2.1.lt
          omega
        · rw [if_neg q1]
          have hl1 := hor _ h1 (fun q => q1 (hA y e hy q))
          by_cases q2 : y2 = x
          · rw [if_pos q2]
            have hb2 := (I.blk y e hy hl1).2.2.1.lt
            omega
          · rw [if_neg q2]
            exact I.apart y y2 e e2 hy hy2 hne hl1 (hor _ h2 (fun q => q2 (hA y2 e2 hy2 q)))
    | put x d hx hi hs hA hS hw m ty X Y hop' hX hY hg hsz hc hz h1 =>
      have hLA : L d.iA = true := hwait _ hw
      obtain ⟨b1, b2, b3, b4⟩ := I.blk x d hx hLA
      have hLS : L d.iS = false := by rw [hi]; exact hLi
      rw [hLS] at b3
      have hrun : (execOp a.eval o).run P W = .ok .skip (W.setRow (gs x) d.cs) := by
        unfold execOp
        simp only [hop', hX, eval_tmp b1, hY a I.had hdep]
        have := run_storeVar_row (P := P) W (gs x) d.t ty d.z d.cs b3 (by rw [hc]; exact hsz) (by omega) h1
        simp [Instr.storeAt, Instr.sureAddr, this]
      refine ⟨by simp [Region.wanted, hg], ?_⟩
      rw [hrun]
      have hgr := grown_setRow W (gs x) d.cs
      refine ⟨trivial, gs, by rw [put_size]; exact I.size, by rw [put_defers]; exact I.defers, fun s' v' q1 q2 => by rw [hs]; exact I.had s' v' q1 q2, fun j oj s' c' hj hd hL hv => ?_, fun j oj s' X hj hd hL hv hno => ?_, fun d' hd' hL j hj => ?_, I.mem.far b2 b4 hgr, fun y e hy hL => ?_, fun y e hy hL => ?_, fun y y2 e e2 hy hy2 hne q1 q2 => ?_⟩
      · have hji : j ≠ i := by
          rintro rfl
          have e1 : oj = o := Option.some.inj (hj.symm.trans hio)
          subst e1
          rw [hs] at hd; cases hd
        rw [hs]
        exact I.val j oj s' c' hj hd (hor j hL hji) hv
      · have := hno d (List.mem_of_getElem? hx)
        rw [hi, beq_self_eq_true, Bool.or_true] at this
        cases this
      · by_cases he : d'.iS = i
        · rw [he] at hj
          have := hwait j hj
          simp [this]
        · have := I.closed d' hd' (hor _ hL he) j hj
          simp [this]
      · by_cases he : y = x
        · subst he
          have e1 : e = d := Option.some.inj (hy.symm.trans hx)
          subst e1
          simp [hLA]
        · have := I.ord y e hy (hor _ hL (fun q => he (hS y e hy q)))
          simp [this]
      · have hLe := hor _ hL (hA e (List.mem_of_getElem? hy))
        obtain ⟨c1, c2, c3, c4⟩ := I.blk y e hy hLe
        rw [hs]
        refine ⟨c1, c2, ?_, c4⟩
        by_cases he : y = x
        · subst he
          have e1 : e = d := Option.some.inj (hy.symm.trans hx)
          subst e1
          rw [hi, beq_self_eq_true, Bool.or_true]
          exact b3.row _
        · rw [beq_eq_false_iff_ne.2 (fun q => he (hS y e hy q)), Bool.or_false]
          exact c3.rowFar (I.apart y x e d hy hx he hLe hLA) _
      · exact I.apart y y2 e e2 hy hy2 hne (hor _ q1 (hA e (List.mem_of_getElem? hy))) (hor _ q2 (hA e2 (List.mem_of_getElem? hy2)))
  · rintro L a W hall ⟨gs, I⟩
    refine hend a W gs ⟨I.size, I.defers, I.had, fun i o s c hi hs _ hv => I.val i o s c hi hs (hall i (List.getElem?_eq_some_iff.1 hi).1) hv, fun i o s X hi hs _ hv hno => I.str i o s X hi hs (hall i (List.getElem?_eq_some_iff.1 hi).1) hv fun d hd => (by have := hno d hd; cases this), fun _ _ _ _ _ => rfl, I.mem, fun _ _ _ _ => rfl, fun x d hx _ => ?_, fun x y d e hx hy hne _ _ => ?_⟩
    · obtain ⟨hq, oA, hoA, _⟩ := hAd d (List.mem_of_getElem? hx)
      have hlA := hall _ (List.getElem?_eq_some_iff.1 hoA).1
      obtain ⟨b1, b2, b3, b4⟩ := I.blk x d hx hlA
      exact ⟨b1, b2, by rw [hall _ hq] at b3; exact b3, b4⟩
    · obtain ⟨_, oA, hoA, _⟩ := hAd d (List.mem_of_getElem? hx)
      obtain ⟨_, oB, hoB, _⟩ := hAd e (List.mem_of_getElem? hy)
      exact I.apart x y d e hx hy hne (hall _ (List.getElem?_eq_some_iff.1 hoA).1) (hall _ (List.getElem?_eq_some_iff.1 hoB).1)
theorem hT_val {VL : List (Option Value)} {SL : List (Option (List (List UInt8)))} {i : Nat} {c : Value} (hc : VL.getD i none = some c) (hs : SL.getD i none = none) : ∀ (v : Value) (W : World), v = c → (∀ c, VL.getD i none = some c → v = c) ∧ ∀ X, SL.getD i none = some X → Strs W v X :=
  fun v W h => ⟨fun c' h' => by rw [hc] at h'; rw [h]; exact Option.some.inj h', fun X h' => by rw [hs] at h'; cases h'⟩
theorem givn_run {o : Oper} {a : Act} {W : World} {c : Value} (h : (execOp a.eval o).run P W = .ok (.value c) W) : GivesT P (Below W.heap.size W) (fun v _ => v = c) ((execOp a.eval o).run P W) := by
  rw [h]
  exact ⟨Below.refl _ _, rfl⟩
theorem givn_call {o : Oper} {a : Act} {W : World} {f : FuncId} {args : Array Value} {c : Value} (hrun : (execOp a.eval o).run P W = .ok (.enter f args) W) (hc : Calls P f args W fun e w' => e = .returned c ∧ Below W.heap.size W w') : GivesT P (Below W.heap.size W) (fun v _ => v = c) ((execOp a.eval o).run P W) := by
  rw [hrun]
  exact hc.mono fun e w' h => ⟨c, h.1, h.2, rfl⟩
theorem Mem.put1 {w0 W : World} {M : List (Nat × (Obj → Prop))} {g : Nat} {t : TypeId} {cs : Array Value} (h : Mem w0 M W) (hg : w0.heap.size ≤ g) (hB : Blk W g t cs) (hfar : ∀ y ∈ M, y.1 ≠ g) : Mem w0 ((g, isB t cs) :: M) W := by
  refine ⟨h.below, fun x hx => ?_, List.Pairwise.cons (fun y hy => fun e => hfar y hy e.symm) h.nd⟩
  rcases List.mem_cons.1 hx with rfl | hx
  · exact ⟨hg, _, hB, rfl⟩
  · exact h.has x hx
def holds (a : Act) : List (Nat × Value) → Prop
  | [] => True
  | p :: r => a.tmps[p.1]? = some p.2 ∧ holds a r
theorem holds_lk {a : Act} : ∀ {L : List (Nat × Value)}, holds a L → ∀ s v, lk L s = some v → a.tmps[s]? = some v
  | [], _, s, v, h => by simp [lk] at h
  | p :: r, hs, s, v, h => by
    unfold lk at h
    cases hb : Nat.beq p.1 s with
    | true =>
      simp only [hb, cond_true, Option.some.injEq] at h
      rw [← Nat.eq_of_beq_eq_true hb, ← h]
      exact hs.1
    | false =>
      simp only [hb, cond_false] at h
      exact holds_lk hs.2 s v h
theorem fr_of_holds {a : Act} {n : Nat} {D : List Deferred} {L : List (Nat × Value)} (hs : a.tmps.size = n) (hd : a.defers = D) (h : holds a L) : FrD D a n L := ⟨hs, hd, holds_lk h⟩
theorem far_cons {M : List (Nat × (Obj → Prop))} {g h : Nat} {S : Obj → Prop} (hne : h ≠ g) (hf : ∀ y ∈ M, y.1 ≠ g) : ∀ y ∈ (h, S) :: M, y.1 ≠ g := by
  intro y hy
  rcases List.mem_cons.1 hy with rfl | hy
  · exact hne
  · exact hf y hy
end
end Go.Proofs.YtdjjiblijbjobaaDoor
/- Functions that defer a closure; drawn regions that store into elder blocks, whole. No program in sight. -/
namespace Go.Proofs.YtdjjiblijbjobaaDoor
open Go.RowKit

section
variable {P : Program} {a : Act} {o : Oper} {w w0 : World} {n s : Nat} {L : List (Nat × Value)} {v : Value} {ops : Array Oper} {rest : List Oper} {Q : Exit → Act → World → Prop} {M : List (Nat × (Obj → Prop))} {x y : Operand} {D : List Deferred}
theorem fr_enter {n : Nat} {vs : List Value} (hv : Nat.ble vs.length n = true) : Fr { tmps := vs.toArray ++ Array.replicate (n - vs.toArray.size) undef, defers := [] } n (numbered vs 0) := by
  refine ⟨?_, rfl, fun s v e => ?_⟩
  · have := Nat.le_of_ble_eq_true hv; simp; omega
  · obtain ⟨_, h2⟩ := lk_numbered vs 0 s v e
    have hs := (List.getElem?_eq_some_iff.1 h2).1
    simp only [Nat.sub_zero] at h2 hs
    rw [Array.getElem?_append, if_pos (by simpa using hs)]
    simpa using h2
theorem walk_enterD {f : FuncId} {fn : Func} {c : Code} {vs : List Value} {R : Ending → World → Prop} (hf : P.funcs[f]? = some fn) (hb : fn.body = some c) (hn : fn.ntmps = n) (hv : Nat.ble vs.length n = true)
    (h : ∀ a, Fr a n (numbered vs 0) → c.wp P (bodyPostD P fn R) a w) : Calls P f vs.toArray w R := by
  subst hn
  exact calls_of_wp_defers hf hb (h _ (fr_enter hv))
theorem walk_enterDd {f : FuncId} {fn : Func} {c : Code} {vs : List Value} {u : FrameMode} {R : Ending → World → Prop} (hf : P.funcs[f]? = some fn) (hb : fn.body = some c) (hn : fn.ntmps = n) (hv : Nat.ble vs.length n = true)
    (h : ∀ a, Fr a n (numbered vs 0) → c.wp P (bodyPost P fn R) a w) : CallsD P f vs.toArray u w fun e u' w' => u' = u ∧ R e w' := by
  subst hn
  exact callsD_of_wp hf hb (h _ (fr_enter hv))
/-- a closure with no arguments is deferred. -/
abbrev lateF (G : FuncId) (cap : Array Value) : Deferred := { target := .fn (.func G) cap, args := #[] }
theorem sqDefer {G : FuncId} {cap : Array Value} (hF : FrD D a n L) (hg : o.guard = none) (ho : o.op = .defer { callee := .value x, args := #[], argTypes := #[] }) (hx : a.eval x = .func (.func G) #[] cap) (hd : o.dst = none)
    (h : ∀ a2, FrD (lateF G cap :: D) a2 n L → wpList P ops Q rest a2 w) : wpList P ops Q (o :: rest) a w := by
  unfold wpList
  rw [if_pos (wantedS hg)]
  left
  unfold Oper.wp
  have hrun : (execOp a.eval o).run P w = .ok (.defer (lateF G cap)) w := by
    unfold execOp
    simp only [ho, resolve, hx]
    simp [Deferred.ofValue, go_sem]
  rw [hrun, Oper.upon_defer, hd]
  exact h _ ⟨hF.size, by simp [Act.put, hF.defers], hF.has⟩
theorem entersF {f : FuncId} {fn : Func} (hf : P.funcs[f]? = some fn) (hn : (fn.name == "runtime.NumGoroutine") = false) (hb : fn.body.isNone = false) (args : Array Value) (w : World) : (callFunc f args).run P w = .ok (.enter f args) w := by
  have h1 : fn.name ≠ "runtime.NumGoroutine" := by simpa using hn
  have h2 : fn.body ≠ none := by intro e; rw [e] at hb; cases hb
  simp [callFunc, hf, h1, h2]
theorem run_allocV {ty : TypeId} {V : Value} {cs : Array Value} (ho : o.op = .alloc ty) (hz : (zeroValue ty).run P w = .ok V w) (hV : V.cells = cs) : (execOp a.eval o).run P w = .ok (.value (.pointer (some ⟨w.heap.size, 0, none⟩))) (w.alloc (.cells cs ty)) := by
  subst hV
  unfold execOp
  simp only [ho]
  simp [go_sem, hz]
/-- the way out past one deferred closure. -/
theorem retD1 {fn : Func} {R : Ending → World → Prop} {G : FuncId} {cap : Array Value} {T : World → Prop} (hF : FrD [lateF G cap] a n L) (he : ∀ w, (callFunc G cap).run P w = .ok (.enter G cap) w)
    (hc : CallsD P G cap .returning w fun e u' w' => u' = .returning ∧ (∃ v, e = .returned v) ∧ T w') (h : ∀ w', T w' → ∃ v, (results fn a.tmps).run P w' = .ok v w' ∧ R (.returned v) w') : bodyPostD P fn R .ret a w := by
  show Leaves P fn a.tmps R a.defers .returning w
  rw [hF.defers]
  refine ⟨by simp, .func G, cap, G, cap, rfl, by simp [invoke, go_sem, he], fun c cs hu => ?_⟩
  obtain ⟨e, u', w', fr, ⟨h1, ⟨v, h2⟩, h3⟩, h4⟩ := hc c cs hu
  subst h1 h2
  exact ⟨_, _, w', fr, h w' h3, h4⟩
theorem results_CC {fn : Func} {s2 g g2 : Nat} {ty ty2 t t2 : TypeId} {u u2 : Value} (hF : FrD D a n L) (hr : fn.results = #[.cell s ty, .cell s2 ty2]) (h1 : lk L s = some (.pointer (some ⟨g, 0, none⟩))) (h2 : lk L s2 = some (.pointer (some ⟨g2, 0, none⟩))) (hB : Blk w g t #[u]) (hB2 : Blk w g2 t2 #[u2])
    (ha : (isAgg ty).run P w = .ok false w) (ha2 : (isAgg ty2).run P w = .ok false w) : (results fn a.tmps).run P w = .ok (.tuple #[u, u2]) w := by
  have e1 : a.tmps[s]?.getD undef = .pointer (some ⟨g, 0, none⟩) := by rw [hF.at s h1]; rfl
  have e2 : a.tmps[s2]?.getD undef = .pointer (some ⟨g2, 0, none⟩) := by rw [hF.at s2 h2]; rfl
  have c1 : w.cell? ⟨g, 0, none⟩ = some u := by rw [hB.cell]; rfl
  have c2 : w.cell? ⟨g2, 0, none⟩ = some u2 := by rw [hB2.cell]; rfl
  simp [results, hr, e1, e2, asAddr, loadVar, go_sem, ha, ha2, c1, c2]
theorem run_storeAny {W : World} {g : Nat} {t ty : TypeId} {old cs : Array Value} {V : Value} (hV : V.cells = cs) (hB : Blk W g t old) (hi : (P.info? ty).map (·.size) = some cs.size) (ho : old.size = cs.size) (h1 : cs.all (·.oneCell') = true) : (storeVar ty ⟨g, 0, none⟩ V).run P W = .ok () (W.setRow g cs) := by
  have h := run_storeVar_row (P := P) W g t ty old cs hB hi ho h1
  have e : storeVar ty ⟨g, 0, none⟩ V = storeVar ty ⟨g, 0, none⟩ (.agg cs) := by
    unfold storeVar
    rw [hV]
    rfl
  rw [e]; exact h
/-- a value is stored that fills a block. -/
theorem sqStoreV {ty t : TypeId} {i g m : Nat} {cs old : Array Value} {V : Value} (hF : FrD D a n L) (hM : Mem w0 M w) (hgd : o.guard = none) (ho : o.op = .store ty x y) (hd : o.dst = none) (hx : a.eval x = .pointer (some ⟨g, 0, none⟩)) (hy : a.eval y = V) (hV : V.cells = cs)
    (e : M[i]? = some (g, isB t old)) (hi : (P.info? ty).map (·.size) = some m) (hm : cs.size = m) (hold : old.size = m) (h1 : cs.all (·.oneCell') = true)
    (h : ∀ a2 w2, w.grownBy w2 (some g) → FrD D a2 n L → Mem w0 (M.set i (g, isB t cs)) w2 → wpList P ops Q rest a2 w2) : wpList P ops Q (o :: rest) a w := by
  have hB := hM.at i e
  have hr := run_storeAny (P := P) (ty := ty) hV hB (by rw [hm]; exact hi) (by omega) h1
  refine sqN hF (wantedS hgd) (w2 := w.setRow g cs) ?_ hd fun a2 hF2 => h a2 _ (grown_setRow w g cs) hF2 (hM.row i e cs)
  unfold execOp
  simp only [ho, hx, hy]
  simp [Instr.storeAt, Instr.sureAddr, hr]
end
section
variable {P : Program} {l : List Oper}
/-- a block that operation iS fills. -/
structure PutD where
  iS : Nat
  g : Nat
  t : TypeId
  old : Array Value
  new : Array Value
structure PutI (l : List Oper) (n : Nat) (a0 : Act) (w0 : World) (M : List (Nat × (Obj → Prop))) (VL : List (Option Value)) (BL : List PutD) (L : Nat → Bool) (a : Act) (W : World) : Prop where
  size : a.tmps.size = n
  defers : a.defers = a0.defers
  had : Had l a0 a
  val : ∀ (i : Nat) (o : Oper) (s : Nat) (c : Value), l[i]? = some o → o.dst = some s → L i = true → VL.getD i none = some c → a.tmps[s]? = some c
  closed : ∀ b ∈ BL, L b.iS = true → ∀ j, Region.waitsFor .any l.toArray b.iS j = true → L j = true
  mem : Mem w0 M W
  blk : ∀ b ∈ BL, Blk W b.g b.t (cond (L b.iS) b.new b.old)
inductive AskP (P : Program) (l : List Oper) (a0 : Act) (w0 : World) (M : List (Nat × (Obj → Prop))) (VL : List (Option Value)) (BL : List PutD) (i : Nat) (o : Oper) : Prop
  | val (s : Nat) (c : Value) (hs : o.dst = some s) (hc : VL.getD i none = some c) (hA : ∀ b ∈ BL, b.iS ≠ i)
      (h : ∀ (a : Act) (W : World), Mem w0 M W → Had l a0 a → (∀ (j s : Nat) (c : Value), depB l i j s = true → VL.getD j none = some c → a.tmps[s]? = some c) → (∀ b ∈ BL, Region.waitsFor .any l.toArray b.iS i = true → Blk W b.g b.t b.old) →
        Region.wanted o (yielded l.toArray a.tmps) = true ∧ GivesT P (Below W.heap.size W) (fun v _ => v = c) ((execOp a.eval o).run P W))
  | put (b : PutD) (hb : b ∈ BL) (hi : b.iS = i) (hs : o.dst = none) (hS : ∀ e ∈ BL, e.iS = i → e = b) (m : Nat) (ty : TypeId) (X Y : Operand) (V : Value) (hop : o.op = .store ty X Y) (hX : ∀ a : Act, Had l a0 a → a.eval X = .pointer (some ⟨b.g, 0, none⟩))
      (hY : ∀ a : Act, Had l a0 a → (∀ (j s : Nat) (c : Value), depB l i j s = true → VL.getD j none = some c → a.tmps[s]? = some c) → a.eval Y = V) (hV : V.cells = b.new) (hg : o.guard = none) (hsz : (P.info? ty).map (·.size) = some m) (hc : b.new.size = m) (hz : b.old.size = m) (h1 : b.new.all (·.oneCell') = true)
def AskAllP (P : Program) (l : List Oper) (a0 : Act) (w0 : World) (M : List (Nat × (Obj → Prop))) (VL : List (Option Value)) (BL : List PutD) : Nat → List Oper → Prop
  | _, [] => True
  | i, o :: rest => AskP P l a0 w0 M VL BL i o ∧ AskAllP P l a0 w0 M VL BL (i + 1) rest
theorem AskAllP.at {a0 : Act} {w0 : World} {M : List (Nat × (Obj → Prop))} {VL : List (Option Value)} {BL : List PutD} : ∀ {r : List Oper} {k : Nat}, AskAllP P l a0 w0 M VL BL k r → ∀ i o, r[i]? = some o → AskP P l a0 w0 M VL BL (k + i) o
  | [], _, _, i, o, h => by simp at h
  | x :: r, k, h, 0, o, ho => by
    simp only [List.getElem?_cons_zero, Option.some.injEq] at ho
    subst ho
    exact h.1
  | x :: r, k, h, i + 1, o, ho => by
    have := AskAllP.at h.2 i o (by simpa using ho)
    rwa [show k + 1 + i = k + (i + 1) by omega] at this
theorem wp_region_put {id : Nat} {Q : Exit → Act → World → Prop} {a0 : Act} {w w0 : World} {M : List (Nat × (Obj → Prop))} (n : Nat) (VL : List (Option Value)) (BL : List PutD) (hm : P.follows .mixedOrders = true) (hB : looseB l n = true) (hn : a0.tmps.size = n) (hM : Mem w0 M w)
    (hgs : ∀ b ∈ BL, Blk w b.g b.t b.old ∧ w0.heap.size ≤ b.g ∧ ∀ y ∈ M, y.1 ≠ b.g) (hdist : ∀ b ∈ BL, ∀ e ∈ BL, b.iS ≠ e.iS → b.g ≠ e.g) (hlt : ∀ b ∈ BL, b.iS < l.length) (hop : AskAllP P l a0 w0 M VL BL 0 l)
    (hend : ∀ (a : Act) (W : World), PutI l n a0 w0 M VL BL (fun _ => true) a W → Q .normal a W) : (Code.region id l.toArray true).wp P Q a0 w := by
  refine wp_region_inv n hm hB (fun L a W => PutI l n a0 w0 M VL BL L a W) ⟨hn, rfl, fun s v _ h => h, fun i o s c _ _ h => (by cases h), fun b _ h => (by cases h), hM.drew, fun b hb => (hgs b hb).1.below (Below.refl _ _).drew (hgs b hb).1.lt⟩ ?_ ?_
  · rintro L a W i o I hio hLi hwait
    have hAt := AskAllP.at hop i o hio
    rw [Nat.zero_add] at hAt
    have hdep : ∀ j s c, depB l i j s = true → VL.getD j none = some c → a.tmps[s]? = some c := by
      intro j s c hb hc
      simp only [depB, Bool.and_eq_true] at hb
      obtain ⟨h1, h2⟩ := hb
      cases hj : l[j]? with
      | none => rw [hj] at h2; cases h2
      | some oj =>
        rw [hj] at h2
        exact I.val j oj s c hj (by simpa using h2) (hwait j h1) hc
    have hold : ∀ b ∈ BL, Region.waitsFor .any l.toArray b.iS i = true → Blk W b.g b.t b.old := by
      intro b hb hW
      have h3 := I.blk b hb
      cases hq : L b.iS with
      | false => rw [hq] at h3; exact h3
      | true => have := I.closed b hb hq i hW; rw [hLi] at this; cases this
    have hor : ∀ j, (L j || j == i) = true → j ≠ i → L j = true := by
      intro j h hne
      rw [beq_eq_false_iff_ne.2 hne, Bool.or_false] at h
      exact h
    cases hAt with
    | val s c hs hc hA h =>
      obtain ⟨hw, hg⟩ := h a W I.mem I.had hdep hold
      refine ⟨hw, ?_⟩
      have hsn : s < a.tmps.size := by rw [I.size]; exact looseB_lt hB hio hs
      have key : ∀ v W', Below W.heap.size W W' → v = c → PutI l n a0 w0 M VL BL (fun j => L j || j == i) (a.put o.dst v) W' := by
        intro v W' hb hTv
        rw [hs]
        refine ⟨by rw [put_size]; exact I.size, by rw [put_defers]; exact I.defers, fun s' v' h1 h2 => ?_, fun j oj s' c' hj hd hL hv => ?_, fun d hd hL j hj => ?_, I.mem.grow hb, fun b hbm => ?_⟩
        · have : s ≠ s' := by
            rintro rfl
            have := List.all_eq_true.1 h1 o (List.mem_of_getElem? hio)
            rw [hs] at this
            simp at this
          rw [put_ne this]
          exact I.had s' v' h1 h2
        · by_cases e : j = i
          · subst e
            have e1 : oj = o := Option.some.inj (hj.symm.trans hio)
            subst e1
            have e2 : s' = s := Option.some.inj (hd.symm.trans hs)
            subst e2
            rw [hc] at hv
            rw [put_same hsn, hTv, Option.some.inj hv]
          · have : s ≠ s' := by
              rintro rfl
              exact e (looseB_dst hB hio hs hj hd)
            rw [put_ne this]
            exact I.val j oj s' c' hj hd (hor j hL e) hv
        · have := I.closed d hd (hor _ hL (hA d hd)) j hj
          simp [this]
        · rw [beq_eq_false_iff_ne.2 (hA b hbm), Bool.or_false]
          exact (I.blk b hbm).below hb (I.blk b hbm).lt
      generalize (execOp a.eval o).run P W = r at hg
      cases r with
      | ok x w' =>
        cases x <;> simp only [GivesT] at hg
        case value u => exact ⟨trivial, key _ _ hg.1 hg.2⟩
        case skip => exact ⟨trivial, key _ _ hg.1 hg.2⟩
        case enter f' args =>
          show Calls P f' args w' _
          refine hg.mono ?_
          rintro e w'' ⟨v, rfl, h1, h2⟩
          exact ⟨v, rfl, trivial, key _ _ h1 h2⟩
      | halt x w' => simp only [GivesT] at hg
    | put b hbm hi hs hS m ty X Y V hop' hX hY hV hg hsz hc hz h1 =>
      have b3 := I.blk b hbm
      rw [hi, hLi] at b3
      have hrun : (execOp a.eval o).run P W = .ok .skip (W.setRow b.g b.new) := by
        unfold execOp
        simp only [hop', hX a I.had, hY a I.had hdep]
        have := run_storeAny (P := P) (ty := ty) (W := W) hV b3 (by rw [hc]; exact hsz) (by show b.old.size = _; omega) h1
        simp [Instr.storeAt, Instr.sureAddr, this]
      refine ⟨by simp [Region.wanted, hg], ?_⟩
      rw [hrun]
      have hgr := grown_setRow W b.g b.new
      refine ⟨trivial, by rw [put_size]; exact I.size, by rw [put_defers]; exact I.defers, fun s' v' q1 q2 => by rw [hs]; exact I.had s' v' q1 q2, fun j oj s' c' hj hd hL hv => ?_, fun d hd hL j hj => ?_, I.mem.far (hgs b hbm).2.1 (hgs b hbm).2.2 hgr, fun e he => ?_⟩
      · have hji : j ≠ i := by
          rintro rfl
          have e1 : oj = o := Option.some.inj (hj.symm.trans hio)
          subst e1
          rw [hs] at hd; cases hd
        rw [hs]
        exact I.val j oj s' c' hj hd (hor j hL hji) hv
      · by_cases he : d.iS = i
        · rw [he] at hj
          have := hwait j hj
          simp [this]
        · have := I.closed d hd (hor _ hL he) j hj
          simp [this]
      · by_cases hei : e.iS = i
        · have e1 := hS e he hei
          subst e1
          rw [hei, beq_self_eq_true, Bool.or_true]
          exact b3.row _
        · rw [beq_eq_false_iff_ne.2 hei, Bool.or_false]
          exact (I.blk e he).rowFar (hdist e he b hbm (by rw [hi]; exact hei)) _
  · rintro L a W hall I
    refine hend a W ⟨I.size, I.defers, I.had, fun i o s c hi hs _ hv => I.val i o s c hi hs (hall i (List.getElem?_eq_some_iff.1 hi).1) hv, fun _ _ _ _ _ => rfl, I.mem, fun b hb => ?_⟩
    have := I.blk b hb
    rw [hall _ (hlt b hb)] at this
    exact this
end
end Go.Proofs.YtdjjiblijbjobaaDoor
