/- Drawn regions in which a row grows by appends, and new blocks are filled, whatever the order. No program in sight. -/
import Derived.Test.YtdjjiblijbjobaaDoorRegB
namespace Go.Proofs.YtdjjiblijbjobaaDoor
open Go.RowKit

/-- a row behind so many steps: which operation leaves it, in which slot, and what it has. -/
structure ChD where
  iC : Nat
  slot : Nat
  n : Nat
  xs : List Value
/-- a new block: which operation makes it, which one fills it, with what (the rows are not known ahead). -/
structure FillD where
  iA : Nat
  slot : Nat
  iS : Nat
  t : TypeId
  z : Array Value
  cs : (Nat → Value) → Array Value
abbrev updV (us : Nat → Value) (x : Nat) (v : Value) : Nat → Value := fun y => if y = x then v else us y
section
variable {w w2 : World} {base size n g : Nat} {e : TypeId} {v : Value} {xs : List Value}
theorem below_grownC (h : Below w.heap.size w w2) (row : Option Nat) : w.grownBy w2 row := ⟨h.os, h.tape, h.output, h.size, fun k hk _ => h.block k hk⟩
theorem ownsRow_grown {row : Option Nat} (h : w.ownsRow base e size v n xs) (hg : w.grownBy w2 row) (hne : ∀ k, v.ownBlock = some k → row ≠ some k) : w2.ownsRow base e size v n xs := by
  refine ⟨h.1, ?_⟩
  rcases h.2 with h1 | ⟨g, cap, cur, rfl, h2, hh, h3⟩
  · exact .inl h1
  · exact .inr ⟨g, cap, cur, rfl, h2, (hg.block g (lt_of_ob hh) (fun e2 => hne g rfl e2.symm)).trans hh, h3⟩
end
section
variable {P : Program} {l : List Oper}
def Behind (l : List Oper) (i j : Nat) : Prop := Region.waitsFor .any l.toArray i j = true ∨ ∃ k, Region.waitsFor .any l.toArray i k = true ∧ Region.waitsFor .any l.toArray k j = true
structure ChI (l : List Oper) (n : Nat) (a0 : Act) (w : World) (e : TypeId) (size : Nat) (VL : (Nat → Value) → Nat → Option Value) (CL : List ChD) (AL : List FillD) (L : Nat → Bool) (a : Act) (W : World) (gs : Nat → Nat) (us : Nat → Value) : Prop where
  tsz : a.tmps.size = n
  defers : a.defers = a0.defers
  had : Had l a0 a
  closed : ∀ i j, L i = true → Region.waitsFor .any l.toArray i j = true → L j = true
  below : Below w.heap.size w W
  val : ∀ (i : Nat) (o : Oper) (s : Nat) (c : Value), l[i]? = some o → o.dst = some s → L i = true → VL us i = some c → a.tmps[s]? = some c
  row : ∀ (x : Nat) (d : ChD), CL[x]? = some d → L d.iC = true → a.tmps[d.slot]? = some (us x)
  own : ∀ (x : Nat) (d : ChD), CL[x]? = some d → L d.iC = true → (∀ (y : Nat) (e' : ChD), CL[y]? = some e' → x < y → L e'.iC = false) → W.ownsRow w.heap.size e size (us x) d.n d.xs
  shape : ∀ (x : Nat) (d : ChD), CL[x]? = some d → L d.iC = true → ∃ p n c, us x = .slice p n c
  ord : ∀ (x : Nat) (d : FillD), AL[x]? = some d → L d.iS = true → L d.iA = true
  blk : ∀ (x : Nat) (d : FillD), AL[x]? = some d → L d.iA = true → a.tmps[d.slot]? = some (.pointer (some ⟨gs x, 0, none⟩)) ∧ w.heap.size ≤ gs x ∧ Blk W (gs x) d.t (cond (L d.iS) (d.cs us) d.z) ∧
    ∀ (y : Nat) (d' : ChD), CL[y]? = some d' → L d'.iC = true → (∀ (z : Nat) (e' : ChD), CL[z]? = some e' → y < z → L e'.iC = false) → (us y).ownBlock ≠ some (gs x)
  apart : ∀ (x y : Nat) (d e : FillD), AL[x]? = some d → AL[y]? = some e → x ≠ y → L d.iA = true → L e.iA = true → gs x ≠ gs y
inductive AskC (P : Program) (l : List Oper) (a0 : Act) (w : World) (e : TypeId) (size : Nat) (VL : (Nat → Value) → Nat → Option Value) (CL : List ChD) (AL : List FillD) (i : Nat) (o : Oper) : Prop
  | val (s : Nat) (f : (Nat → Value) → Value) (hs : o.dst = some s) (hv : ∀ us, VL us i = some (f us)) (hC : ∀ d ∈ CL, d.iC ≠ i) (hA : ∀ d ∈ AL, d.iA ≠ i ∧ d.iS ≠ i)
      (h : ∀ (a : Act) (W : World) (us : Nat → Value), Below w.heap.size w W → Had l a0 a → (∀ (j s : Nat) (c : Value), depB l i j s = true → VL us j = some c → a.tmps[s]? = some c) → (∀ (x : Nat) (d : ChD), CL[x]? = some d → depB l i d.iC d.slot = true → a.tmps[d.slot]? = some (us x) ∧ ∃ p n c, us x = .slice p n c) →
        Region.wanted o (yielded l.toArray a.tmps) = true ∧ GivesT P (Below W.heap.size W) (fun v _ => v = f us) ((execOp a.eval o).run P W))
  | first (d : ChD) (hx : CL[0]? = some d) (hi : d.iC = i) (hs : o.dst = some d.slot) (hv : ∀ us, VL us i = none) (hA : ∀ d ∈ AL, d.iA ≠ i ∧ d.iS ≠ i) (hC : ∀ (y : Nat) (e' : ChD), CL[y]? = some e' → e'.iC = i → y = 0)
      (h : ∀ (a : Act) (W : World) (us : Nat → Value), Below w.heap.size w W → Had l a0 a → (∀ (j s : Nat) (c : Value), depB l i j s = true → VL us j = some c → a.tmps[s]? = some c) →
        Region.wanted o (yielded l.toArray a.tmps) = true ∧ GivesT P (Below W.heap.size W) (fun v W' => W'.ownsRow w.heap.size e size v d.n d.xs ∧ ∀ g, v.ownBlock = some g → W.heap.size ≤ g) ((execOp a.eval o).run P W))
  | row (x : Nat) (d d' : ChD) (hx : CL[x + 1]? = some d) (hx' : CL[x]? = some d') (hi : d.iC = i) (hs : o.dst = some d.slot) (hv : ∀ us, VL us i = none) (hA : ∀ d ∈ AL, d.iA ≠ i ∧ d.iS ≠ i) (hC : ∀ (y : Nat) (e' : ChD), CL[y]? = some e' → e'.iC = i → y = x + 1)
      (h : ∀ (a : Act) (W : World) (us : Nat → Value) (u : Value), Below w.heap.size w W → Had l a0 a → (∀ (j s : Nat) (c : Value), depB l i j s = true → VL us j = some c → a.tmps[s]? = some c) → a.tmps[d'.slot]? = some u → W.ownsRow w.heap.size e size u d'.n d'.xs →
        Region.wanted o (yielded l.toArray a.tmps) = true ∧ GivesT P (fun W' => W.grownBy W' u.ownBlock) (fun v W' => W'.ownsRow w.heap.size e size v d.n d.xs ∧ (v.ownBlock = u.ownBlock ∨ ∃ g, v.ownBlock = some g ∧ W.heap.size ≤ g)) ((execOp a.eval o).run P W))
  | new (x : Nat) (d : FillD) (hx : AL[x]? = some d) (hi : d.iA = i) (hs : o.dst = some d.slot) (hv : ∀ us, VL us i = none) (hCC : ∀ d ∈ CL, d.iC ≠ i) (hS : ∀ d ∈ AL, d.iS ≠ i) (hA : ∀ (y : Nat) (e : FillD), AL[y]? = some e → e.iA = i → y = x)
      (h : ∀ (a : Act) (W : World), Region.wanted o (yielded l.toArray a.tmps) = true ∧ (execOp a.eval o).run P W = .ok (.value (.pointer (some ⟨W.heap.size, 0, none⟩))) (W.alloc (.cells d.z d.t)))
  | put (x : Nat) (d : FillD) (hx : AL[x]? = some d) (hi : d.iS = i) (hs : o.dst = none) (hCC : ∀ d ∈ CL, d.iC ≠ i) (hA : ∀ d ∈ AL, d.iA ≠ i) (hS : ∀ (y : Nat) (e : FillD), AL[y]? = some e → e.iS = i → y = x) (hw : Region.waitsFor .any l.toArray i d.iA = true) (m : Nat) (ty : TypeId) (X Y : Operand) (V : (Nat → Value) → Value) (hop : o.op = .store ty X Y) (hX : X = .tmp d.slot)
      (hY : ∀ (a : Act) (us : Nat → Value), Had l a0 a → (∀ (j s : Nat) (c : Value), depB l i j s = true → VL us j = some c → a.tmps[s]? = some c) → a.eval Y = V us) (hV : ∀ us, (V us).cells = d.cs us) (hg : o.guard = none) (hsz : (P.info? ty).map (·.size) = some m) (hc : ∀ us, (d.cs us).size = m) (hz : d.z.size = m) (h1 : ∀ us, (∀ (y : Nat) (d' : ChD), CL[y]? = some d' → Behind l i d'.iC → ∃ p n c, us y = .slice p n c) → (d.cs us).all (·.oneCell') = true)
def AskAllC (P : Program) (l : List Oper) (a0 : Act) (w : World) (e : TypeId) (size : Nat) (VL : (Nat → Value) → Nat → Option Value) (CL : List ChD) (AL : List FillD) : Nat → List Oper → Prop
  | _, [] => True
  | i, o :: rest => AskC P l a0 w e size VL CL AL i o ∧ AskAllC P l a0 w e size VL CL AL (i + 1) rest
theorem AskAllC.at {a0 : Act} {w : World} {e : TypeId} {size : Nat} {VL : (Nat → Value) → Nat → Option Value} {CL : List ChD} {AL : List FillD} : ∀ {r : List Oper} {k : Nat}, AskAllC P l a0 w e size VL CL AL k r → ∀ i o, r[i]? = some o → AskC P l a0 w e size VL CL AL (k + i) o
  | [], _, _, i, o, h => by simp at h
  | x :: r, k, h, 0, o, ho => by
    simp only [List.getElem?_cons_zero, Option.some.injEq] at ho
    subst ho
    exact h.1
  | x :: r, k, h, i + 1, o, ho => by
    have := AskAllC.at h.2 i o (by simpa using ho)
    rwa [show k + 1 + i = k + (i + 1) by omega] at this
theorem owns_slice {w : World} {base : Nat} {e : TypeId} {size n : Nat} {v : Value} {xs : List Value} (h : w.ownsRow base e size v n xs) : ∃ p n c, v = .slice p n c := by
  rcases h.2 with ⟨rfl, _⟩ | ⟨g, cap, cur, rfl, _⟩
  · exact ⟨_, _, _, rfl⟩
  · exact ⟨_, _, _, rfl⟩
theorem wp_region_chain {id : Nat} {Q : Exit → Act → World → Prop} {a0 : Act} {w : World} {e : TypeId} {size : Nat} (n : Nat) (VL : (Nat → Value) → Nat → Option Value) (CL : List ChD) (AL : List FillD) (hm : P.follows .mixedOrders = true) (hB : looseB l n = true) (hn : a0.tmps.size = n)
    (hchain : ∀ (x : Nat) (d d' : ChD), CL[x]? = some d → CL[x + 1]? = some d' → Region.waitsFor .any l.toArray d'.iC d.iC = true)
    (hVL : ∀ (x : Nat) (d : ChD), CL[x]? = some d → ∀ j, j < l.length → (∀ us v, VL (updV us x v) j = VL us j) ∨ Behind l j d.iC)
    (hAL : ∀ (x : Nat) (d : ChD), CL[x]? = some d → ∀ b ∈ AL, (∀ us v, b.cs (updV us x v) = b.cs us) ∨ Behind l b.iS d.iC)
    (hAd : ∀ d ∈ AL, d.iS < l.length ∧ ∃ o, l[d.iA]? = some o ∧ o.dst = some d.slot) (hCd : ∀ d ∈ CL, ∃ o, l[d.iC]? = some o ∧ o.dst = some d.slot) (hop : AskAllC P l a0 w e size VL CL AL 0 l)
    (hend : ∀ (a : Act) (W : World) (gs : Nat → Nat) (us : Nat → Value), ChI l n a0 w e size VL CL AL (fun _ => true) a W gs us → Q .normal a W) : (Code.region id l.toArray true).wp P Q a0 w := by
  refine wp_region_inv n hm hB (fun L a W => ∃ gs us, ChI l n a0 w e size VL CL AL L a W gs us) ⟨fun _ => 0, fun _ => undef, hn, rfl, fun s v _ h => h, fun _ _ h => (by cases h), (Below.refl _ _).drew, fun i o s c _ _ h => (by cases h), fun x d _ h => (by cases h), fun x d _ h => (by cases h), fun x d _ h => (by cases h), fun x d _ h => (by cases h), fun x d _ h => (by cases h), fun x y d e _ _ _ h => by cases h⟩ ?_ ?_
  · rintro L a W i o ⟨gs, us, I⟩ hio hLi hwait
    have hil := (List.getElem?_eq_some_iff.1 hio).1
    have hAt := AskAllC.at hop i o hio
    rw [Nat.zero_add] at hAt
    have hdep : ∀ j s c, depB l i j s = true → VL us j = some c → a.tmps[s]? = some c := by
      intro j s c hb hc
      simp only [depB, Bool.and_eq_true] at hb
      obtain ⟨h1, h2⟩ := hb
      cases hj : l[j]? with
      | none => rw [hj] at h2; cases h2
      | some oj =>
        rw [hj] at h2
        exact I.val j oj s c hj (by simpa using h2) (hwait j h1) hc
    have hdepR : ∀ (x : Nat) (d : ChD), CL[x]? = some d → depB l i d.iC d.slot = true → a.tmps[d.slot]? = some (us x) ∧ ∃ p n c, us x = .slice p n c := by
      intro x d hx hb
      simp only [depB, Bool.and_eq_true] at hb
      exact ⟨I.row x d hx (hwait _ hb.1), I.shape x d hx (hwait _ hb.1)⟩
    have hor : ∀ j, (L j || j == i) = true → j ≠ i → L j = true := by
      intro j h hne
      rw [beq_eq_false_iff_ne.2 hne, Bool.or_false] at h
      exact h
    have hclosed : ∀ i' j, (L i' || i' == i) = true → Region.waitsFor .any l.toArray i' j = true → (L j || j == i) = true := by
      intro i' j h1 h2
      by_cases e1 : i' = i
      · subst e1
        rw [hwait j h2]; rfl
      · rw [I.closed i' j (hor _ h1 e1) h2]; rfl
    have hbehind : ∀ j k, L j = true → Behind l j k → L k = true := by
      intro j k hj hb
      rcases hb with hb | ⟨q, h1, h2⟩
      · exact I.closed j k hj hb
      · exact I.closed q k (I.closed j q hj h1) h2
    have hold : ∀ (s' : Nat) (v' : Value) (v : Value), l.all (fun o => o.dst != some s') = true → a0.tmps[s']? = some v' → (a.put o.dst v).tmps[s']? = some v' := by
      intro s' v' v h1 h2
      cases hs : o.dst with
      | none => exact I.had s' v' h1 h2
      | some s =>
        have : s ≠ s' := by
          rintro rfl
          have := List.all_eq_true.1 h1 o (List.mem_of_getElem? hio)
          rw [hs] at this
          simp at this
        rw [put_ne this]
        exact I.had s' v' h1 h2
    have hkeep : ∀ (j : Nat) (oj : Oper) (s' : Nat) (v u : Value), l[j]? = some oj → oj.dst = some s' → j ≠ i → a.tmps[s']? = some u → (a.put o.dst v).tmps[s']? = some u := by
      intro j oj s' v u hj hd hne h
      cases hs : o.dst with
      | none => exact h
      | some s =>
        have : s ≠ s' := by
          rintro rfl
          exact hne (looseB_dst hB hio hs hj hd)
        rw [put_ne this]; exact h
    have later : ∀ (x : Nat) (d : ChD), CL[x]? = some d → L d.iC = false → ∀ (k : Nat) (e' : ChD), CL[x + k]? = some e' → L e'.iC = false := by
      intro x d hx hL k
      induction k with
      | zero =>
        intro e' he
        have : e' = d := Option.some.inj (he.symm.trans hx)
        rw [this]; exact hL
      | succ k ih =>
        intro e' he
        have hlt := (List.getElem?_eq_some_iff.1 he).1
        have he0 : CL[x + k]? = some (CL[x + k]'(by omega)) := List.getElem?_eq_getElem (by omega)
        have h1 := ih _ he0
        cases hq : L e'.iC with
        | false => rfl
        | true => have := I.closed _ _ hq (hchain (x + k) _ e' he0 he); rw [h1] at this; cases this
    have rowkey : ∀ (x : Nat) (d : ChD) (ob : Option Nat) (v : Value) (W' : World), CL[x]? = some d → d.iC = i → o.dst = some d.slot → (∀ us, VL us i = none) → (∀ d ∈ AL, d.iA ≠ i ∧ d.iS ≠ i) → (∀ (y : Nat) (e' : ChD), CL[y]? = some e' → e'.iC = i → y = x) →
        (∀ k, ob = some k → w.heap.size ≤ k) → (∀ (y : Nat) (b : FillD), AL[y]? = some b → L b.iA = true → ob ≠ some (gs y)) → W.grownBy W' ob → W'.ownsRow w.heap.size e size v d.n d.xs → (∀ g, v.ownBlock = some g → ob = some g ∨ W.heap.size ≤ g) →
        ∃ gs us, ChI l n a0 w e size VL CL AL (fun j => L j || j == i) (a.put o.dst v) W' gs us := by
      intro x d ob v W' hx hi hs hv hA hC h1 h2 hgr hown hblk
      have hLd : L d.iC = false := by rw [hi]; exact hLi
      have hsn : d.slot < a.tmps.size := by rw [I.tsz]; exact looseB_lt hB hio hs
      have honly : ∀ (y : Nat) (e' : ChD), CL[y]? = some e' → (L e'.iC || e'.iC == i) = true → (∀ (z : Nat) (e2 : ChD), CL[z]? = some e2 → y < z → (L e2.iC || e2.iC == i) = false) → y = x := by
        intro y e' hy hL hlast
        rcases Nat.lt_trichotomy y x with hyx | hyx | hyx
        · have := hlast x d hx hyx
          rw [hi, beq_self_eq_true, Bool.or_true] at this
          cases this
        · exact hyx
        · have h3 := later x d hx hLd (y - x) e' (by rw [show x + (y - x) = y by omega]; exact hy)
          have h4 : e'.iC ≠ i := fun q => by have := hC y e' hy q; omega
          rw [h3, beq_eq_false_iff_ne.2 h4] at hL
          cases hL
      have hcsU : ∀ b ∈ AL, L b.iS = true → b.cs (updV us x v) = b.cs us := by
        intro b hb hL
        rcases hAL x d hx b hb with h3 | h3
        · exact h3 us v
        · have := hbehind _ _ hL h3; rw [hLd] at this; cases this
      have hvU : ∀ j, j < l.length → L j = true → VL (updV us x v) j = VL us j := by
        intro j hj hL
        rcases hVL x d hx j hj with h3 | h3
        · exact h3 us v
        · have := hbehind _ _ hL h3; rw [hLd] at this; cases this
      refine ⟨gs, updV us x v, by rw [put_size]; exact I.tsz, by rw [put_defers]; exact I.defers, fun s' v' q1 q2 => hold s' v' v q1 q2, hclosed, ⟨hgr.os.trans I.below.os, hgr.tape.trans I.below.tape, hgr.output.trans I.below.output, Nat.le_trans I.below.size hgr.size, fun k hk => (hgr.block k (Nat.lt_of_lt_of_le hk I.below.size) (fun e2 => by have := h1 k e2.symm; omega)).trans (I.below.block k hk)⟩, fun j oj s' c' hj hd hL hv' => ?_, fun y e' hy hL => ?_, fun y e' hy hL hlast => ?_, fun y e' hy hL => ?_, fun z b hz hL => ?_, fun z b hz hL => ?_, fun z y b b2 hz hy hne q1 q2 => ?_⟩
      · have hji : j ≠ i := by rintro rfl; rw [hv] at hv'; cases hv'
        have hL0 := hor j hL hji
        rw [hvU j (List.getElem?_eq_some_iff.1 hj).1 hL0] at hv'
        exact hkeep j oj s' v c' hj hd hji (I.val j oj s' c' hj hd hL0 hv')
      · by_cases hyx : y = x
        · subst hyx
          have e1 : e' = d := Option.some.inj (hy.symm.trans hx)
          subst e1
          rw [hs, put_same hsn]
          simp [updV]
        · have hne : e'.iC ≠ i := fun q => hyx (hC y e' hy q)
          obtain ⟨oC, hoC, hdC⟩ := hCd e' (List.mem_of_getElem? hy)
          have := hkeep _ oC _ v _ hoC hdC hne (I.row y e' hy (hor _ hL hne))
          simpa [updV, hyx] using this
      · have hyx := honly y e' hy hL hlast
        subst hyx
        have e1 : e' = d := Option.some.inj (hy.symm.trans hx)
        subst e1
        simpa [updV] using hown
      · by_cases hyx : y = x
        · subst hyx
          simpa [updV] using owns_slice hown
        · have hne : e'.iC ≠ i := fun q => hyx (hC y e' hy q)
          simpa [updV, hyx] using I.shape y e' hy (hor _ hL hne)
      · have hne := hA b (List.mem_of_getElem? hz)
        have := I.ord z b hz (hor _ hL hne.2)
        simp [this]
      · have hne := hA b (List.mem_of_getElem? hz)
        have hLA := hor _ hL hne.1
        obtain ⟨b1, b2, b3, b4⟩ := I.blk z b hz hLA
        obtain ⟨_, oA, hoA, hdA⟩ := hAd b (List.mem_of_getElem? hz)
        refine ⟨hkeep _ oA _ v _ hoA hdA hne.1 b1, b2, ?_, fun y d' hy hL' hlast hq => ?_⟩
        · rw [beq_eq_false_iff_ne.2 hne.2, Bool.or_false]
          have h4 : Blk W' (gs z) b.t (cond (L b.iS) (b.cs us) b.z) := (hgr.block (gs z) b3.lt (fun e2 => h2 z b hz hLA e2.symm)).trans b3
          cases hq : L b.iS with
          | false => rw [hq] at h4; exact h4
          | true => rw [hq] at h4; rw [hcsU b (List.mem_of_getElem? hz) hq]; exact h4
        · have hyx := honly y d' hy hL' hlast
          subst hyx
          have hq' : v.ownBlock = some (gs z) := by simpa [updV] using hq
          rcases hblk _ hq' with h5 | h5
          · exact h2 z b hz hLA h5
          · have := b3.lt; omega
      · exact I.apart z y b b2 hz hy hne (hor _ q1 (hA b (List.mem_of_getElem? hz)).1) (hor _ q2 (hA b2 (List.mem_of_getElem? hy)).1)
    cases hAt with
    | val s f hs hv hC hA h =>
      obtain ⟨hw, hg⟩ := h a W us I.below I.had hdep hdepR
      refine ⟨hw, ?_⟩
      have hsn : s < a.tmps.size := by rw [I.tsz]; exact looseB_lt hB hio hs
      have key : ∀ v W', Below W.heap.size W W' → v = f us → ∃ gs us, ChI l n a0 w e size VL CL AL (fun j => L j || j == i) (a.put o.dst v) W' gs us := by
        intro v W' hb hTv
        refine ⟨gs, us, by rw [put_size]; exact I.tsz, by rw [put_defers]; exact I.defers, fun s' v' h1 h2 => hold s' v' v h1 h2, hclosed, I.below.trans (hb.mono I.below.size), fun j oj s' c' hj hd hL hv' => ?_, fun x d hx hL => ?_, fun x d hx hL hlast => ?_, fun x d hx hL => I.shape x d hx (hor _ hL (hC d (List.mem_of_getElem? hx))), fun x d hx hL => ?_, fun x d hx hL => ?_, fun x y d e hx hy hne h1 h2 => ?_⟩
        · by_cases e1 : j = i
          · subst e1
            have e2 : oj = o := Option.some.inj (hj.symm.trans hio)
            subst e2
            have e3 : s' = s := Option.some.inj (hd.symm.trans hs)
            subst e3
            rw [hv] at hv'
            rw [hs, put_same hsn, hTv, Option.some.inj hv']
          · exact hkeep j oj s' v c' hj hd e1 (I.val j oj s' c' hj hd (hor j hL e1) hv')
        · have hne := hC d (List.mem_of_getElem? hx)
          obtain ⟨oC, hoC, hdC⟩ := hCd d (List.mem_of_getElem? hx)
          exact hkeep _ oC _ v _ hoC hdC hne (I.row x d hx (hor _ hL hne))
        · have hne := hC d (List.mem_of_getElem? hx)
          have h1 := I.own x d hx (hor _ hL hne) fun y e' hy hxy => by have := hlast y e' hy hxy; simp only [Bool.or_eq_false_iff] at this; exact this.1
          exact ownsRow_grown h1 (below_grownC hb none) (fun k _ => by simp)
        · have hne := hA d (List.mem_of_getElem? hx)
          have := I.ord x d hx (hor _ hL hne.2)
          simp [this]
        · have hne := hA d (List.mem_of_getElem? hx)
          obtain ⟨b1, b2, b3, b4⟩ := I.blk x d hx (hor _ hL hne.1)
          obtain ⟨_, oA, hoA, hdA⟩ := hAd d (List.mem_of_getElem? hx)
          refine ⟨hkeep _ oA _ v _ hoA hdA hne.1 b1, b2, ?_, fun y d' hy hL' hlast => ?_⟩
          · rw [beq_eq_false_iff_ne.2 hne.2, Bool.or_false]
            exact b3.below hb b3.lt
          · exact b4 y d' hy (hor _ hL' (hC d' (List.mem_of_getElem? hy))) fun z e' hz hyz => by have := hlast z e' hz hyz; simp only [Bool.or_eq_false_iff] at this; exact this.1
        · exact I.apart x y d e hx hy hne (hor _ h1 (hA d (List.mem_of_getElem? hx)).1) (hor _ h2 (hA e (List.mem_of_getElem? hy)).1)
      generalize (execOp a.eval o).run P W = r at hg
      cases r with
      | ok x w' =>
        cases x <;> simp only [GivesT] at hg
        case value u => exact ⟨trivial, key _ _ hg.1 hg.2⟩
        case skip => exact ⟨trivial, key _ _ hg.1 hg.2⟩
        case enter f' args =>
          show Calls P f' args w' _
          refine hg.mono ?_
          rintro e w'' ⟨v, rfl, h1, h2⟩
          exact ⟨v, rfl, trivial, key _ _ h1 h2⟩
      | halt x w' => simp only [GivesT] at hg
    | first d hx hi hs hv hA hC h =>
      obtain ⟨hw, hg⟩ := h a W us I.below I.had hdep
      refine ⟨hw, ?_⟩
      have key : ∀ v W', Below W.heap.size W W' → (W'.ownsRow w.heap.size e size v d.n d.xs ∧ ∀ g, v.ownBlock = some g → W.heap.size ≤ g) → ∃ gs us, ChI l n a0 w e size VL CL AL (fun j => L j || j == i) (a.put o.dst v) W' gs us :=
        fun v W' hb ⟨q1, q2⟩ => rowkey 0 d none v W' hx hi hs hv hA hC (fun k hk => by cases hk) (fun y b _ _ hq => by cases hq) (below_grownC hb none) q1 (fun g hg => .inr (q2 g hg))
      generalize (execOp a.eval o).run P W = r at hg
      cases r with
      | ok x w' =>
        cases x <;> simp only [GivesT] at hg
        case value u => exact ⟨trivial, key _ _ hg.1 hg.2⟩
        case skip => exact ⟨trivial, key _ _ hg.1 hg.2⟩
        case enter f' args =>
          show Calls P f' args w' _
          refine hg.mono ?_
          rintro e w'' ⟨v, rfl, h1, h2⟩
          exact ⟨v, rfl, trivial, key _ _ h1 h2⟩
      | halt x w' => simp only [GivesT] at hg
    | row x d d' hx hx' hi hs hv hA hC h =>
      have hLd' : L d'.iC = true := hwait _ (by rw [← hi]; exact hchain x d' d hx' hx)
      have hLd : L d.iC = false := by rw [hi]; exact hLi
      have hown := I.own x d' hx' hLd' fun y e' hy hxy => later (x + 1) d hx hLd (y - (x + 1)) e' (by rw [show x + 1 + (y - (x + 1)) = y by omega]; exact hy)
      obtain ⟨hw, hg⟩ := h a W us (us x) I.below I.had hdep (I.row x d' hx' hLd') hown
      refine ⟨hw, ?_⟩
      have key : ∀ v W', W.grownBy W' (us x).ownBlock → (W'.ownsRow w.heap.size e size v d.n d.xs ∧ (v.ownBlock = (us x).ownBlock ∨ ∃ g, v.ownBlock = some g ∧ W.heap.size ≤ g)) → ∃ gs us, ChI l n a0 w e size VL CL AL (fun j => L j || j == i) (a.put o.dst v) W' gs us := by
        intro v W' hb ⟨q1, q2⟩
        refine rowkey (x + 1) d (us x).ownBlock v W' hx hi hs hv hA hC (fun k hk => own_base hown hk) (fun y b hy hLA => (I.blk y b hy hLA).2.2.2 x d' hx' hLd' fun z e' hz hxz => later (x + 1) d hx hLd (z - (x + 1)) e' (by rw [show x + 1 + (z - (x + 1)) = z by omega]; exact hz)) hb q1 (fun g hg => ?_)
        rcases q2 with q2 | ⟨g', q2, q3⟩
        · exact .inl (q2 ▸ hg)
        · rw [q2] at hg
          injection hg with hg
          exact .inr (hg ▸ q3)
      generalize (execOp a.eval o).run P W = r at hg
      cases r with
      | ok x w' =>
        cases x <;> simp only [GivesT] at hg
        case value u => exact ⟨trivial, key _ _ hg.1 hg.2⟩
        case skip => exact ⟨trivial, key _ _ hg.1 hg.2⟩
        case enter f' args =>
          show Calls P f' args w' _
          refine hg.mono ?_
          rintro e w'' ⟨v, rfl, h1, h2⟩
          exact ⟨v, rfl, trivial, key _ _ h1 h2⟩
      | halt x w' => simp only [GivesT] at hg
    | new x d hx hi hs hv hCC hS hA h =>
      obtain ⟨hw, hr⟩ := h a W
      refine ⟨hw, ?_⟩
      rw [hr]
      have hb : Below W.heap.size W (W.alloc (.cells d.z d.t)) := (Below.refl _ _).alloc (Nat.le_refl _) _
      have hsn : d.slot < a.tmps.size := by rw [I.tsz]; exact looseB_lt hB hio hs
      have hlast : ∀ (y : Nat), (∀ (z : Nat) (e' : ChD), CL[z]? = some e' → y < z → (L e'.iC || e'.iC == i) = false) → ∀ (z : Nat) (e' : ChD), CL[z]? = some e' → y < z → L e'.iC = false := fun y h z e' hz hyz => by have := h z e' hz hyz; simp only [Bool.or_eq_false_iff] at this; exact this.1
      refine ⟨trivial, fun y => if y = x then W.heap.size else gs y, us, by rw [put_size]; exact I.tsz, by rw [put_defers]; exact I.defers, fun s' v' h1 h2 => hold s' v' _ h1 h2, hclosed, I.below.trans (hb.mono I.below.size), fun j oj s' c' hj hd hL hv' => ?_, fun y e' hy hL => ?_, fun y e' hy hL hl => ?_, fun y e' hy hL => I.shape y e' hy (hor _ hL (hCC e' (List.mem_of_getElem? hy))), fun y e hy hL => ?_, fun y e hy hL => ?_, fun y y2 e e2 hy hy2 hne h1 h2 => ?_⟩
      · have hji : j ≠ i := by rintro rfl; rw [hv] at hv'; cases hv'
        exact hkeep j oj s' _ c' hj hd hji (I.val j oj s' c' hj hd (hor j hL hji) hv')
      · have hne := hCC e' (List.mem_of_getElem? hy)
        obtain ⟨oC, hoC, hdC⟩ := hCd e' (List.mem_of_getElem? hy)
        exact hkeep _ oC _ _ _ hoC hdC hne (I.row y e' hy (hor _ hL hne))
      · have hne := hCC e' (List.mem_of_getElem? hy)
        exact ownsRow_grown (I.own y e' hy (hor _ hL hne) (hlast y hl)) (below_grownC hb none) (fun k _ => by simp)
      · have := I.ord y e hy (hor _ hL (hS e (List.mem_of_getElem? hy)))
        simp [this]
      · by_cases he : y = x
        · subst he
          have e1 : e = d := Option.some.inj (hy.symm.trans hx)
          subst e1
          have hLS : L e.iS = false := by
            cases hq : L e.iS with
            | false => rfl
            | true => have := I.ord y e hy hq; rw [hi, hLi] at this; cases this
          rw [if_pos rfl, hs, put_same hsn]
          refine ⟨rfl, I.below.size, ?_, fun z d' hz hL' hl hq => ?_⟩
          · rw [hLS, beq_eq_false_iff_ne.2 (hS e (List.mem_of_getElem? hy))]
            exact Blk.new _ _ _
          · have h5 := own_lt_size (I.own z d' hz (hor _ hL' (hCC d' (List.mem_of_getElem? hz))) (hlast z hl)) hq
            omega
        · have hne : e.iA ≠ i := fun q => he (hA y e hy q)
          obtain ⟨b1, b2, b3, b4⟩ := I.blk y e hy (hor _ hL hne)
          obtain ⟨_, oA, hoA, hdA⟩ := hAd e (List.mem_of_getElem? hy)
          rw [if_neg he]
          refine ⟨hkeep _ oA _ _ _ hoA hdA hne b1, b2, ?_, fun z d' hz hL' hl => b4 z d' hz (hor _ hL' (hCC d' (List.mem_of_getElem? hz))) (hlast z hl)⟩
          rw [beq_eq_false_iff_ne.2 (hS e (List.mem_of_getElem? hy)), Bool.or_false]
          exact b3.below hb b3.lt
      · by_cases q1 : y = x
        · have q2 : y2 ≠ x := fun q => hne (q1.trans q.symm)
          rw [if_pos q1, if_neg q2]
          have hb2 := (I.blk y2 e2 hy2 (hor _ h2 (fun q => q2 (hA y2 e2 hy2 q)))).2.2.1.lt
          omega
        · rw [if_neg q1]
          have hl1 := hor _ h1 (fun q => q1 (hA y e hy q))
          by_cases q2 : y2 = x
          · rw [if_pos q2]
            have hb2 := (I.blk y e hy hl1).2.2.1.lt
            omega
          · rw [if_neg q2]
            exact I.apart y y2 e e2 hy hy2 hne hl1 (hor _ h2 (fun q => q2 (hA y2 e2 hy2 q)))
    | put x d hx hi hs hCC hA hS hw m ty X Y V hop' hX hY hV hg hsz hc hz h1 =>
      have hLA : L d.iA = true := hwait _ hw
      obtain ⟨b1, b2, b3, b4⟩ := I.blk x d hx hLA
      have hLS : L d.iS = false := by rw [hi]; exact hLi
      rw [hLS] at b3
      have h1' : (d.cs us).all (·.oneCell') = true := h1 us fun y d' hy hbh => I.shape y d' hy (by
        rcases hbh with hbh | ⟨q, q1, q2⟩
        · exact hwait _ hbh
        · exact I.closed q _ (hwait _ q1) q2)
      have hrun : (execOp a.eval o).run P W = .ok .skip (W.setRow (gs x) (d.cs us)) := by
        unfold execOp
        simp only [hop', hX, eval_tmp b1, hY a us I.had hdep]
        have := run_storeAny (P := P) (ty := ty) (W := W) (hV us) b3 (by rw [hc]; exact hsz) (by show d.z.size = _; rw [hz, hc]) h1'
        simp [Instr.storeAt, Instr.sureAddr, this]
      refine ⟨by simp [Region.wanted, hg], ?_⟩
      rw [hrun]
      have hgr := grown_setRow W (gs x) (d.cs us)
      have hlast : ∀ (y : Nat), (∀ (z : Nat) (e' : ChD), CL[z]? = some e' → y < z → (L e'.iC || e'.iC == i) = false) → ∀ (z : Nat) (e' : ChD), CL[z]? = some e' → y < z → L e'.iC = false := fun y h z e' hz hyz => by have := h z e' hz hyz; simp only [Bool.or_eq_false_iff] at this; exact this.1
      refine ⟨trivial, gs, us, by rw [put_size]; exact I.tsz, by rw [put_defers]; exact I.defers, fun s' v' q1 q2 => hold s' v' _ q1 q2, hclosed, ⟨hgr.os.trans I.below.os, hgr.tape.trans I.below.tape, hgr.output.trans I.below.output, Nat.le_trans I.below.size hgr.size, fun k hk => (hgr.block k (Nat.lt_of_lt_of_le hk I.below.size) (fun e2 => by injection e2 with e2; omega)).trans (I.below.block k hk)⟩, fun j oj s' c' hj hd hL hv => ?_, fun y e' hy hL => ?_, fun y e' hy hL hl => ?_, fun y e' hy hL => I.shape y e' hy (hor _ hL (hCC e' (List.mem_of_getElem? hy))), fun y e hy hL => ?_, fun y e hy hL => ?_, fun y y2 e e2 hy hy2 hne q1 q2 => ?_⟩
      · have hji : j ≠ i := by
          rintro rfl
          have e1 : oj = o := Option.some.inj (hj.symm.trans hio)
          subst e1
          rw [hs] at hd; cases hd
        rw [hs]
        exact I.val j oj s' c' hj hd (hor j hL hji) hv
      · rw [hs]
        exact I.row y e' hy (hor _ hL (hCC e' (List.mem_of_getElem? hy)))
      · have hL0 := hor _ hL (hCC e' (List.mem_of_getElem? hy))
        exact ownsRow_grown (I.own y e' hy hL0 (hlast y hl)) hgr (fun k hk hq => b4 y e' hy hL0 (hlast y hl) (by rw [hk]; exact hq.symm))
      · by_cases he : y = x
        · subst he
          have e1 : e = d := Option.some.inj (hy.symm.trans hx)
          subst e1
          simp [hLA]
        · have := I.ord y e hy (hor _ hL (fun q => he (hS y e hy q)))
          simp [this]
      · have hLe := hor _ hL (hA e (List.mem_of_getElem? hy))
        obtain ⟨c1, c2, c3, c4⟩ := I.blk y e hy hLe
        rw [hs]
        refine ⟨c1, c2, ?_, fun z d' hz hL' hl => c4 z d' hz (hor _ hL' (hCC d' (List.mem_of_getElem? hz))) (hlast z hl)⟩
        by_cases he : y = x
        · subst he
          have e1 : e = d := Option.some.inj (hy.symm.trans hx)
          subst e1
          rw [hi, beq_self_eq_true, Bool.or_true]
          exact b3.row _
        · rw [beq_eq_false_iff_ne.2 (fun q => he (hS y e hy q)), Bool.or_false]
          exact c3.rowFar (I.apart y x e d hy hx he hLe hLA) _
      · exact I.apart y y2 e e2 hy hy2 hne (hor _ q1 (hA e (List.mem_of_getElem? hy))) (hor _ q2 (hA e2 (List.mem_of_getElem? hy2)))
  · rintro L a W hall ⟨gs, us, I⟩
    have hAi : ∀ d ∈ AL, L d.iA = true := fun d hd => by
      obtain ⟨_, oA, hoA, _⟩ := hAd d hd
      exact hall _ (List.getElem?_eq_some_iff.1 hoA).1
    have hCi : ∀ d ∈ CL, L d.iC = true := fun d hd => by
      obtain ⟨oC, hoC, _⟩ := hCd d hd
      exact hall _ (List.getElem?_eq_some_iff.1 hoC).1
    have hlast : ∀ (x : Nat) (d : ChD), CL[x]? = some d → (∀ (y : Nat) (e' : ChD), CL[y]? = some e' → x < y → (fun _ : Nat => true) e'.iC = false) → ∀ (y : Nat) (e' : ChD), CL[y]? = some e' → x < y → L e'.iC = false := fun x d _ h y e' hy hxy => by have := h y e' hy hxy; cases this
    refine hend a W gs us ⟨I.tsz, I.defers, I.had, fun _ _ _ _ => rfl, I.below, fun i o s c hi hs _ hv => I.val i o s c hi hs (hall i (List.getElem?_eq_some_iff.1 hi).1) hv, fun x d hx _ => I.row x d hx (hCi d (List.mem_of_getElem? hx)), fun x d hx _ h => I.own x d hx (hCi d (List.mem_of_getElem? hx)) (hlast x d hx h), fun x d hx _ => I.shape x d hx (hCi d (List.mem_of_getElem? hx)), fun _ _ _ _ => rfl, fun x d hx _ => ?_, fun x y d e hx hy hne _ _ => I.apart x y d e hx hy hne (hAi d (List.mem_of_getElem? hx)) (hAi e (List.mem_of_getElem? hy))⟩
    obtain ⟨b1, b2, b3, b4⟩ := I.blk x d hx (hAi d (List.mem_of_getElem? hx))
    refine ⟨b1, b2, ?_, fun y d' hy _ h => b4 y d' hy (hCi d' (List.mem_of_getElem? hy)) (hlast y d' hy h)⟩
    rw [hall _ (hAd d (List.mem_of_getElem? hx)).1] at b3
    exact b3
theorem append_own_any {w : World} {base : Nat} {t ty e : TypeId} {size bytes n m : Nat} {v x : Value} {xs news : List Value} (E : ElT P t e size bytes) (hown : w.ownsRow base e size v n xs) (hx : Sl w x size m news) (h1 : ∀ u ∈ news, u.oneCell' = true)
    (h63 : n + m ≤ maxLen) (hbytes : (n + m) * bytes ≤ 140737488355328) (hbase : base ≤ w.heap.size) : ∃ v2 w2, (Builtin.append_ #[t, t] ty #[v, x]).run P w = .ok v2 w2 ∧ w2.ownsRow base e size v2 (n + m) (xs ++ news) ∧ w.grownBy w2 v.ownBlock ∧ (v2.ownBlock = v.ownBlock ∨ ∃ g, v2.ownBlock = some g ∧ w.heap.size ≤ g) := by
  obtain ⟨i, z, hi, hz, hsz, hby, hzs⟩ := E.inf
  rcases hx.2 with ⟨⟨a, c, rfl⟩, rfl⟩ | ⟨b, o, c, rfl, hb, hc⟩
  · have hn : news = [] := List.eq_nil_of_length_eq_zero (by rw [hx.1]; simp)
    subst hn
    refine ⟨v, w, ?_, by simpa using hown, below_grownC (Below.refl _ _) _, .inl rfl⟩
    rcases hown.2 with ⟨rfl, rfl⟩ | ⟨g, cap, cur, rfl, _, _, hnc, _⟩
    · cases a <;> simp [Builtin.append_, run_underlying E.un, sizeOf, typeInfo, hi, Builtin.lenOf, Builtin.firstCells, loadCells, loadCellsFrom]
    · cases a <;> simp [Builtin.append_, run_underlying E.un, sizeOf, typeInfo, hi, Builtin.lenOf, Builtin.firstCells, hnc, storeCells, loadCells, loadCellsFrom]
  · have hnews : ∀ j u, news[j]? = some u → w.cell? ((⟨b, o, none⟩ : Addr).add j) = some u := fun j u hj => by rw [addr_add]; exact hc j u hj
    obtain ⟨v2, w2, hr, h2, h3, h4⟩ := run_append_own (P := P) w base t ty e i z size bytes E.un hi hz hsz hby hzs E.pos v n xs hown ⟨b, o, none⟩ m c news hx.1 hnews h1 h63 hbytes hbase
    exact ⟨v2, w2, hr, h2, h3, append_block (P := P) E.un hi hz hsz hby hown hx.1 hnews h1 h63 hbytes hr h4⟩
theorem givc_append {a : Act} {o : Oper} {W : World} {base : Nat} {t e : TypeId} {size bytes n m : Nat} {x y : Operand} {u z : Value} {xs news : List Value} (E : ElT P t e size bytes) (ho : o.op = .call { callee := .builtin .append, args := #[x, y], argTypes := #[t, t] }) (hx : a.eval x = u) (hy : a.eval y = z)
    (hown : W.ownsRow base e size u n xs) (hz : Sl W z size m news) (h1 : ∀ u ∈ news, u.oneCell' = true) (h63 : n + m ≤ maxLen) (hbytes : (n + m) * bytes ≤ 140737488355328) (hbase : base ≤ W.heap.size) :
    GivesT P (fun W' => W.grownBy W' u.ownBlock) (fun v W' => W'.ownsRow base e size v (n + m) (xs ++ news) ∧ (v.ownBlock = u.ownBlock ∨ ∃ g, v.ownBlock = some g ∧ W.heap.size ≤ g)) ((execOp a.eval o).run P W) := by
  obtain ⟨v2, w2, hr, h2, h3, h4⟩ := append_own_any (P := P) (ty := o.type) E hown hz h1 h63 hbytes hbase
  have hrun : (execOp a.eval o).run P W = .ok (.value v2) w2 := by
    unfold execOp
    simp only [ho, resolve, invoke, builtin, Sem.run_bind, Sem.run_pure, Result.andThen_ok, List.map_toArray, List.map_cons, List.map_nil, hx, hy, hr]
  rw [hrun]
  exact ⟨h3, h2, h4⟩
theorem givc_none {a : Act} {o : Oper} {W : World} {base : Nat} {e : TypeId} {size : Nat} (hb : base ≤ W.heap.size) (hrun : (execOp a.eval o).run P W = .ok (.value (.slice (some ⟨W.heap.size, 0, none⟩) 0 0)) (W.alloc (.cells #[] e))) :
    GivesT P (Below W.heap.size W) (fun v W' => W'.ownsRow base e size v 0 [] ∧ ∀ g, v.ownBlock = some g → W.heap.size ≤ g) ((execOp a.eval o).run P W) := by
  rw [hrun]
  refine ⟨(Below.refl _ _).alloc (Nat.le_refl _) _, ⟨by simp, .inr ⟨W.heap.size, 0, #[], rfl, hb, heap_alloc_new W _, Nat.le_refl _, by unfold maxLen; omega, by simp, by simp⟩⟩, fun g hg => ?_⟩
  simp only [Value.ownBlock, Option.some.injEq] at hg
  omega
/-- a row out of such a region, apart from the blocks. -/
theorem OwnR.chain {w0 w1 w2 : World} {M : List (Nat × (Obj → Prop))} {e : TypeId} {size m g : Nat} {v : Value} {xs : List Value} {S : Obj → Prop} (hM : Mem w0 M w1) (h : w2.ownsRow w1.heap.size e size v m xs) (hg : v.ownBlock ≠ some g) : OwnR w0 ((g, S) :: M) w2 e size v m xs := by
  refine ⟨(OwnR.ofCall hM h).owns, fun x hx => ?_⟩
  rcases List.mem_cons.1 hx with rfl | hx
  · exact hg
  · exact (OwnR.ofCall hM h).far x hx
end
end Go.Proofs.YtdjjiblijbjobaaDoor
