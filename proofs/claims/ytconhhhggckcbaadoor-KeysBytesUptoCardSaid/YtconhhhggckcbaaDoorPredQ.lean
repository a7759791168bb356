/- Laws and walks that many claims share: PredI, PredR, PredW. -/
import Derived.OrdersIn
import Derived.Test.YtconhhhggckcbaaDoorRegB
import Derived.Test.YtconhhhggckcbaaDoorRange
import Derived.Test.YtconhhhggckcbaaDoorOpsB
/- Drawn regions in a round of a range over a function. No program in sight. -/
namespace Go.Proofs.YtconhhhggckcbaaDoor
open Go.RowKit

section
variable {P : Program} {l : List Oper}
theorem wpIn_region_inv {id lr m : Nat} {Q : Exit → Act → World → Prop} {a0 : Act} {w : World} (n : Nat) (hm : P.follows .mixedOrders = true) (hnd : (l.all fun o => match o.op with | .defer _ => false | _ => true) = true) (hB : looseB l n = true) (Inv : (Nat → Bool) → Act → World → Prop) (h0 : Inv (fun _ => false) a0 w.drew)
    (hstep : ∀ (L : Nat → Bool) a W i o, Inv L a W → l[i]? = some o → L i = false → (∀ j, Region.waitsFor .any l.toArray i j = true → L j = true) →
      Region.wanted o (yielded l.toArray a.tmps) = true ∧ GivesT P (fun _ => True) (fun v W' => Inv (fun j => L j || j == i) (a.put o.dst v) W') ((execOp a.eval o).run P W))
    (hend : ∀ L a W, (∀ j, j < l.length → L j = true) → Inv L a W → Q .normal a W) : (Code.region id l.toArray true).wpIn (Fence.wide.inRound lr) m P Q a0 w := by
  refine wpIn_region_any hm ?_
  have main : ∀ (f : Nat) (listed : Array Bool) (a : Act) (W : World), listed.size = l.length → openN l.length listed = f → Inv (fun j => listed.getD j false) a W → wpAnyIn (Fence.wide.inRound lr) m P .any l.toArray Q f listed a W := by
    intro f
    induction f with
    | zero =>
      intro listed a W hsz hf hI
      have hno : Region.ready .any l.toArray listed = [] := by
        refine Classical.byContradiction fun hc => ?_
        obtain ⟨j, hj⟩ := List.exists_mem_of_ne_nil _ hc
        obtain ⟨hu, o, ho, _⟩ := mem_ready.1 hj
        have hjl : j < l.length := by simpa using (Array.getElem?_eq_some_iff.1 ho).1
        have := openN_set l.length listed j hjl hsz hu
        omega
      refine ⟨hno, hend _ a W (fun j hj => ?_) hI⟩
      have hjs : j < listed.size := by omega
      cases hu : listed.getD j true with
      | true =>
        simp only [Array.getD_eq_getD_getElem?, Array.getElem?_eq_getElem hjs, Option.getD_some] at hu ⊢
        exact hu
      | false =>
        have := openN_set l.length listed j hj hsz hu
        omega
    | succ f ih =>
      intro listed a W hsz hf hI
      refine ⟨fun h => absurd h (ready_of_open hB hsz (by omega)), fun i hi => ?_⟩
      obtain ⟨hu, o, ho, hwait⟩ := mem_ready.1 hi
      have hio : l[i]? = some o := by simpa using ho
      have hil := (List.getElem?_eq_some_iff.1 hio).1
      have his : i < listed.size := by omega
      have hL0 : listed.getD i false = false := by
        simp only [Array.getD_eq_getD_getElem?, Array.getElem?_eq_getElem his, Option.getD_some] at hu ⊢
        exact hu
      have hext : (fun j => (listed.setIfInBounds i true).getD j false) = fun j => listed.getD j false || j == i := by
        funext j
        simp only [Array.getD_eq_getD_getElem?, Array.getElem?_setIfInBounds]
        by_cases hj : i = j
        · subst hj; simp [his]
        · rw [if_neg hj, beq_eq_false_iff_ne.2 (fun e => hj e.symm), Bool.or_false]
      have hlist : ∀ j, Region.waitsFor .any l.toArray i j = true → listed.getD j false = true := by
        intro j hj
        obtain ⟨o', ho', e, he, hb, hon⟩ := Region.waitsFor_spec hj
        have e1 : o' = o := Option.some.inj (ho'.symm.trans ho)
        subst e1
        rw [← hon]; exact hwait e he hb
      have go : ∀ v W', Inv (fun j => listed.getD j false || j == i) (a.put o.dst v) W' → wpAnyIn (Fence.wide.inRound lr) m P .any l.toArray Q f (listed.setIfInBounds i true) (a.put o.dst v) W' := by
        intro v W' h
        exact ih _ _ _ (by simpa using hsz) (by have := openN_set l.length listed i hil hsz hu; omega) (by rw [hext]; exact h)
      obtain ⟨hw, hg⟩ := hstep _ a W i o hI hio hL0 hlist
      have hndo : ∀ c, o.op ≠ .defer c := by
        intro c e
        have := List.all_eq_true.1 hnd o (List.mem_of_getElem? hio)
        rw [e] at this
        cases this
      unfold wpOpIn
      simp only [ho]
      rw [if_pos hw]
      refine ⟨fun _ _ => trivial, ?_⟩
      rw [Oper.semAt_eq _ _ _ hndo]
      generalize (execOp a.eval o).run P W = r at hg
      cases r with
      | ok x w' =>
        cases x <;> simp only [GivesT] at hg
        case value u => exact go _ _ hg.2
        case skip => exact go _ _ hg.2
        case enter f' args =>
          refine ⟨fun hx => (by cases hx), CallsIn.inRound lr (callsIn_wide.2 (Calls.mono (R := _) hg ?_))⟩
          rintro e w'' ⟨v, rfl, _, h2⟩
          exact go _ _ h2
      | halt x w' => simp only [GivesT] at hg
  have h1 : openN l.length (Array.replicate l.toArray.size false) = l.toArray.size := by
    unfold openN
    have : ((List.range l.length).filter fun i => (Array.replicate l.toArray.size false).getD i true == false) = List.range l.length := by
      apply List.filter_eq_self.2
      intro i hi
      rw [List.mem_range] at hi
      simp [hi]
    rw [this]; simp
  refine main _ _ _ _ (by simp) h1 ?_
  have e : (fun j => (Array.replicate l.toArray.size false).getD j false) = fun _ => false := by funext j; exact getD_replicate_false _ _
  rw [e]
  exact h0
end
end Go.Proofs.YtconhhhggckcbaaDoor
/- Drawn regions whose values are known by what they meet: rows that calls make, new blocks and elder ones that are stored into, appends to a row. No program in sight. -/
namespace Go.Proofs.YtconhhhggckcbaaDoor
open Go.RowKit

/-- what is known of a value. -/
inductive Kp where
  | any
  | val (c : Value)
  | row (e : TypeId) (m n : Nat) (xs : List Value)
  | rowO (b : Nat) (e : TypeId) (m n : Nat) (xs : List Value) (v0 : Value)
  | rows2 (e e2 : TypeId) (m2 : Nat) (LL : List (Nat × List Value))
  | new (t : TypeId) (cs : Array Value) (n : Nat)
  | st (k : Kp)
  | tup2 (p q : Kp)
  | tup4 (p q r s : Kp)
def Kp.sat (B : Nat) : Kp → Value → World → Prop
  | .any, _, _ => True
  | .val c, v, _ => v = c
  | .row e m n xs, v, W => W.ownsRow B e m v n xs
  | .rowO b e m n xs v0, v, W => W.ownsRow b e m v n xs ∧ (v.ownBlock = v0.ownBlock ∨ ∀ g, v.ownBlock = some g → B ≤ g)
  | .rows2 e e2 m2 LL, v, W => ∃ US : List Value, W.ownsRow B e 1 v US.length US ∧ US.length = LL.length ∧ ∀ (q n : Nat) (xs : List Value), LL[q]? = some (n, xs) → ∃ u, US[q]? = some u ∧ W.ownsRow B e2 m2 u n xs
  | .new t cs n, v, W => ∃ g, B ≤ g ∧ v = .slice (some ⟨g, 0, none⟩) n n ∧ Blk W g t cs
  | .st k, v, W => ∃ u, v = .agg #[u] ∧ k.sat B u W
  | .tup2 p q, v, W => ∃ x y, v = .tuple #[x, y] ∧ p.sat B x W ∧ q.sat B y W
  | .tup4 p q r s, v, W => ∃ x y z u, v = .tuple #[x, y, z, u] ∧ p.sat B x W ∧ q.sat B y W ∧ r.sat B z W ∧ s.sat B u W
def Kp.uses : Kp → TypeId → Prop
  | .row e _ _ _, x => x = e
  | .rowO _ e _ _ _ _, x => x = e
  | .rows2 e e2 _ _, x => x = e ∨ x = e2
  | .new t _ _, x => x = t
  | .st k, x => k.uses x
  | .tup2 p q, x => p.uses x ∨ q.uses x
  | .tup4 p q r s, x => p.uses x ∨ q.uses x ∨ r.uses x ∨ s.uses x
  | _, _ => False
def Kp.safe : Kp → TypeId → Bool
  | .row e _ _ _, x => !(Nat.beq x e)
  | .rowO _ e _ _ _ _, x => !(Nat.beq x e)
  | .rows2 e e2 _ _, x => !(Nat.beq x e) && !(Nat.beq x e2)
  | .new t _ _, x => !(Nat.beq x t)
  | .st k, x => k.safe x
  | .tup2 p q, x => p.safe x && q.safe x
  | .tup4 p q r s, x => p.safe x && (q.safe x && (r.safe x && s.safe x))
  | _, _ => true
theorem beq_no {x e : TypeId} (h : (!(Nat.beq x e)) = true) : x ≠ e := by
  rintro rfl
  rw [Nat.beq_refl] at h
  cases h
theorem Kp.safe_uses : ∀ {k : Kp} {x : TypeId}, k.safe x = true → ¬ k.uses x
  | .any, _, _ => id
  | .val _, _, _ => id
  | .row _ _ _ _, _, h => beq_no h
  | .rowO _ _ _ _ _ _, _, h => beq_no h
  | .rows2 e e2 _ _, x, h => by
    have h : (!(Nat.beq x e) && !(Nat.beq x e2)) = true := h
    simp only [Bool.and_eq_true] at h
    rintro (h1 | h1)
    · exact beq_no h.1 h1
    · exact beq_no h.2 h1
  | .new _ _ _, _, h => beq_no h
  | .st k, _, h => Kp.safe_uses (k := k) h
  | .tup2 p q, x, h => by
    have h : (p.safe x && q.safe x) = true := h
    simp only [Bool.and_eq_true] at h
    rintro (h1 | h1)
    · exact Kp.safe_uses h.1 h1
    · exact Kp.safe_uses h.2 h1
  | .tup4 p q r s, x, h => by
    have h : (p.safe x && (q.safe x && (r.safe x && s.safe x))) = true := h
    simp only [Bool.and_eq_true] at h
    rintro (h1 | h1 | h1 | h1)
    · exact Kp.safe_uses h.1 h1
    · exact Kp.safe_uses h.2.1 h1
    · exact Kp.safe_uses h.2.2.1 h1
    · exact Kp.safe_uses h.2.2.2 h1
theorem ownsRow_keep0 {w W : World} {B m n : Nat} {e : TypeId} {v : Value} {xs : List Value} {ob : Option Nat} (h : w.ownsRow B e m v n xs) (hg : w.grownBy W ob) (hne : ∀ g, v.ownBlock = some g → some g ≠ ob) : W.ownsRow B e m v n xs := by
  refine ⟨h.1, ?_⟩
  rcases h.2 with h1 | ⟨g, cap, cur, rfl, h2, hh, h3⟩
  · exact .inl h1
  · exact .inr ⟨g, cap, cur, rfl, h2, (hg.block g (lt_of_ob hh) (hne g rfl)).trans hh, h3⟩
theorem Kp.keep {B : Nat} {W W' : World} {ob : Option Nat} (hg : W.grownBy W' ob) : ∀ {k : Kp} {v : Value}, k.sat B v W → (∀ g cur x, k.uses x → W.heap[g]? = some (.cells cur x (0, 0)) → some g ≠ ob) → k.sat B v W'
  | .any, _, _, _ => trivial
  | .val _, _, h, _ => h
  | .row e m n xs, v, h, hne => by
    refine ⟨h.1, ?_⟩
    rcases h.2 with h1 | ⟨g, cap, cur, h1, h2, hh, h3⟩
    · exact .inl h1
    · exact .inr ⟨g, cap, cur, h1, h2, (hg.block g (lt_of_ob hh) (hne g cur e rfl hh)).trans hh, h3⟩
  | .rowO b0 e m n xs v0, v, h, hne => by
    refine ⟨⟨h.1.1, ?_⟩, h.2⟩
    rcases h.1.2 with h1 | ⟨g, cap, cur, h1, h2, hh, h3⟩
    · exact .inl h1
    · exact .inr ⟨g, cap, cur, h1, h2, (hg.block g (lt_of_ob hh) (hne g cur e rfl hh)).trans hh, h3⟩
  | .rows2 e e2 m2 LL, v, h, hne => by
    obtain ⟨US, h1, h2, h3⟩ := h
    refine ⟨US, ?_, h2, fun q n xs hq => ?_⟩
    · refine ⟨h1.1, ?_⟩
      rcases h1.2 with h4 | ⟨g, cap, cur, h4, h5, hh, h6⟩
      · exact .inl h4
      · exact .inr ⟨g, cap, cur, h4, h5, (hg.block g (lt_of_ob hh) (hne g cur e (.inl rfl) hh)).trans hh, h6⟩
    · obtain ⟨u, h4, h5⟩ := h3 q n xs hq
      refine ⟨u, h4, h5.1, ?_⟩
      rcases h5.2 with h6 | ⟨g, cap, cur, h6, h7, hh, h8⟩
      · exact .inl h6
      · exact .inr ⟨g, cap, cur, h6, h7, (hg.block g (lt_of_ob hh) (hne g cur e2 (.inr rfl) hh)).trans hh, h8⟩
  | .new t cs n, v, h, hne => by
    obtain ⟨g, h1, h2, h3⟩ := h
    exact ⟨g, h1, h2, (hg.block g h3.lt (hne g cs t rfl h3)).trans h3⟩
  | .st k, v, h, hne => by
    obtain ⟨u, h1, h2⟩ := h
    exact ⟨u, h1, Kp.keep hg h2 hne⟩
  | .tup2 p q, v, h, hne => by
    obtain ⟨x, y, h1, h2, h3⟩ := h
    exact ⟨x, y, h1, Kp.keep hg h2 (fun g cur x hx => hne g cur x (.inl hx)), Kp.keep hg h3 (fun g cur x hx => hne g cur x (.inr hx))⟩
  | .tup4 p q r s, v, h, hne => by
    obtain ⟨x, y, z, u, h1, h2, h3, h4, h5⟩ := h
    exact ⟨x, y, z, u, h1, Kp.keep hg h2 (fun g cur x hx => hne g cur x (.inl hx)), Kp.keep hg h3 (fun g cur x hx => hne g cur x (.inr (.inl hx))), Kp.keep hg h4 (fun g cur x hx => hne g cur x (.inr (.inr (.inl hx)))), Kp.keep hg h5 (fun g cur x hx => hne g cur x (.inr (.inr (.inr hx))))⟩
/-- memory as it was, but for some blocks and new ones. -/
structure KeepW (G : List Nat) (w W : World) : Prop where
  os : W.os = w.os
  tape : W.tape = w.tape
  output : W.output = w.output
  size : w.heap.size ≤ W.heap.size
  block : ∀ k, k < w.heap.size → k ∉ G → W.heap[k]? = w.heap[k]?
section
variable {w w0 W W' : World} {G : List Nat} {M : List (Nat × (Obj → Prop))}
theorem below_grownP (h : Below w.heap.size w W) (ob : Option Nat) : w.grownBy W ob := ⟨h.os, h.tape, h.output, h.size, fun k hk _ => h.block k hk⟩
theorem KeepW.ofBelow (h : Below w.heap.size w W) : KeepW G w W := ⟨h.os, h.tape, h.output, h.size, fun k hk _ => h.block k hk⟩
theorem KeepW.grown {ob : Option Nat} (h : KeepW G w W) (hg : W.grownBy W' ob) (hob : ∀ k, ob = some k → w.heap.size ≤ k ∨ k ∈ G) : KeepW G w W' :=
  ⟨hg.os.trans h.os, hg.tape.trans h.tape, hg.output.trans h.output, Nat.le_trans h.size hg.size, fun k hk hG => (hg.block k (Nat.lt_of_lt_of_le hk h.size) (fun e => by
    rcases hob k e.symm with h1 | h1
    · omega
    · exact hG h1)).trans (h.block k hk hG)⟩
theorem Mem.keepW (h : Mem w0 M w) (hk : KeepW G w W) (hf : ∀ x ∈ M, x.1 ∉ G) (hG : ∀ g ∈ G, w0.heap.size ≤ g) : Mem w0 M W := by
  refine ⟨⟨hk.os.trans h.below.os, hk.tape.trans h.below.tape, hk.output.trans h.below.output, Nat.le_trans h.below.size hk.size, fun k hl => (hk.block k (Nat.lt_of_lt_of_le hl h.below.size) (fun hm => by have := hG k hm; omega)).trans (h.below.block k hl)⟩, fun x hx => ?_, h.nd⟩
  obtain ⟨h1, ob, h2, h3⟩ := h.has x hx
  exact ⟨h1, ob, (hk.block _ (lt_of_ob h2) (hf x hx)).trans h2, h3⟩
theorem OwnR.keepW {e : TypeId} {size m : Nat} {v : Value} {xs : List Value} (h : OwnR w0 M w e size v m xs) (hk : KeepW G w W) (hf : ∀ g ∈ G, v.ownBlock ≠ some g) : OwnR w0 M W e size v m xs := by
  refine ⟨⟨h.owns.1, ?_⟩, h.far⟩
  rcases h.owns.2 with h1 | ⟨g, cap, cur, rfl, h2, hh, h3⟩
  · exact .inl h1
  · exact .inr ⟨g, cap, cur, rfl, h2, (hk.block g (lt_of_ob hh) (fun hm => hf g hm rfl)).trans hh, h3⟩
end
/-- a new block: who makes it, who fills it, by what. -/
structure NewZ where
  iA : Nat
  slot : Nat
  iS : Nat
  t : TypeId
  z : Array Value
  k : Kp
/-- an elder block that is filled. -/
structure OldZ where
  iS : Nat
  g : Nat
  t : TypeId
  old : Array Value
  k : Kp
/-- an elder row that one operation appends to. -/
structure RowZ where
  iA : Nat
  b : Nat
  e : TypeId
  m : Nat
  v : Value
  n : Nat
  xs : List Value
abbrev GZ (BL : List OldZ) (RL : List RowZ) : List Nat := BL.map (·.g) ++ RL.flatMap fun r => r.v.ownBlock.toList
def filledP (B : Nat) (k : Kp) (t : TypeId) (g : Nat) (W : World) : Prop := ∃ V, Blk W g t V.cells ∧ k.sat B V W
section
variable {P : Program} {l : List Oper}
def killedB (l : List Oper) (kill : List (Option Nat)) (q i : Nat) : Bool := match kill.getD q none with | some K => K == i || Region.waitsFor .any l.toArray i K | none => false
def behindB (l : List Oper) (i j : Nat) : Bool := Region.waitsFor .any l.toArray i j || (List.range l.length).any fun k => Region.waitsFor .any l.toArray i k && Region.waitsFor .any l.toArray k j
def dstB (l : List Oper) (j s : Nat) : Bool := match l[j]? with | some oj => oj.dst == some s | none => false
structure PI (l : List Oper) (n : Nat) (a0 : Act) (w : World) (KL : List Kp) (kill : List (Option Nat)) (AL : List NewZ) (BL : List OldZ) (RL : List RowZ) (L : Nat → Bool) (a : Act) (W : World) (gs : Nat → Nat) : Prop where
  tsz : a.tmps.size = n
  defers : a.defers = a0.defers
  had : Had l a0 a
  closed : ∀ i j, L i = true → Region.waitsFor .any l.toArray i j = true → L j = true
  keep : KeepW (GZ BL RL) w W
  val : ∀ (i : Nat) (o : Oper) (s : Nat), l[i]? = some o → o.dst = some s → L i = true → (∀ d ∈ AL, d.iA ≠ i) → (∀ K, kill.getD i none = some K → L K = false) → ∃ v, a.tmps[s]? = some v ∧ (KL.getD i .any).sat w.heap.size v W
  ord : ∀ (x : Nat) (d : NewZ), AL[x]? = some d → L d.iS = true → L d.iA = true
  blk : ∀ (x : Nat) (d : NewZ), AL[x]? = some d → L d.iA = true → a.tmps[d.slot]? = some (.pointer (some ⟨gs x, 0, none⟩)) ∧ w.heap.size ≤ gs x ∧ (L d.iS = false → Blk W (gs x) d.t d.z) ∧ (L d.iS = true → filledP w.heap.size d.k d.t (gs x) W)
  apart : ∀ (x y : Nat) (d e : NewZ), AL[x]? = some d → AL[y]? = some e → x ≠ y → L d.iA = true → L e.iA = true → gs x ≠ gs y
  held : ∀ (j s : Nat), dstB l j s = true → L j = false → a.tmps[s]? = a0.tmps[s]?
  rows : ∀ r ∈ RL, L r.iA = false → W.ownsRow r.b r.e r.m r.v r.n r.xs
  old : ∀ b ∈ BL, (L b.iS = false → Blk W b.g b.t b.old) ∧ (L b.iS = true → filledP w.heap.size b.k b.t b.g W)
def DepZ (l : List Oper) (a0 : Act) (w : World) (KL : List Kp) (kill : List (Option Nat)) (AL : List NewZ) (i : Nat) (a : Act) (W : World) : Prop :=
  (∀ (j s : Nat), depB l i j s = true → (∀ d ∈ AL, d.iA ≠ j) → (∀ K, kill.getD j none = some K → K = i ∨ Region.waitsFor .any l.toArray K i = true) → ∃ v, a.tmps[s]? = some v ∧ (KL.getD j .any).sat w.heap.size v W) ∧
  ∀ (j s : Nat) (v : Value), dstB l j s = true → behindB l j i = true → a0.tmps[s]? = some v → a.tmps[s]? = some v
inductive AskZ (P : Program) (l : List Oper) (a0 : Act) (w : World) (KL : List Kp) (kill : List (Option Nat)) (AL : List NewZ) (BL : List OldZ) (RL : List RowZ) (i : Nat) (o : Oper) : Prop
  | val (s : Nat) (hs : o.dst = some s) (hA : ∀ d ∈ AL, d.iA ≠ i ∧ d.iS ≠ i) (hB : ∀ b ∈ BL, b.iS ≠ i) (hR : ∀ r ∈ RL, r.iA ≠ i)
      (h : ∀ (a : Act) (W : World), KeepW (GZ BL RL) w W → Had l a0 a → DepZ l a0 w KL kill AL i a W → Region.wanted o (yielded l.toArray a.tmps) = true ∧ GivesT P (Below W.heap.size W) (fun v W' => (KL.getD i .any).sat w.heap.size v W') ((execOp a.eval o).run P W))
  | app (s j sj : Nat) (e : TypeId) (m c : Nat) (xs : List Value) (hs : o.dst = some s) (hA : ∀ d ∈ AL, d.iA ≠ i ∧ d.iS ≠ i) (hB : ∀ b ∈ BL, b.iS ≠ i) (hR : ∀ r ∈ RL, r.iA ≠ i) (hj : depB l i j sj = true) (hjn : ∀ d ∈ AL, d.iA ≠ j) (hkj : kill.getD j none = some i) (hKj : KL.getD j .any = .row e m c xs)
      (hK : ((List.range l.length).all fun q => (KL.getD q .any).safe e || killedB l kill q i || behindB l q i || q == i) = true)
      (hAe : (AL.all fun d => !(Nat.beq d.t e) && (d.k.safe e || behindB l d.iS i)) = true) (hBe : (BL.all fun b => !(Nat.beq b.t e) && (b.k.safe e || behindB l b.iS i)) = true)
      (h : ∀ (a : Act) (W : World) (u : Value), KeepW (GZ BL RL) w W → Had l a0 a → DepZ l a0 w KL kill AL i a W → a.tmps[sj]? = some u → W.ownsRow w.heap.size e m u c xs → Region.wanted o (yielded l.toArray a.tmps) = true ∧ GivesT P (fun W' => W.grownBy W' u.ownBlock) (fun v W' => (KL.getD i .any).sat w.heap.size v W') ((execOp a.eval o).run P W))
  | appO (s : Nat) (r : RowZ) (hr : r ∈ RL) (hi : r.iA = i) (hs : o.dst = some s) (hA : ∀ d ∈ AL, d.iA ≠ i ∧ d.iS ≠ i) (hB : ∀ b ∈ BL, b.iS ≠ i) (h1 : RL.length ≤ 1)
      (hK : ((List.range l.length).all fun q => (KL.getD q .any).safe r.e || killedB l kill q i || behindB l q i || q == i) = true) (hAe : (AL.all fun d => d.k.safe r.e || behindB l d.iS i) = true) (hBe : (BL.all fun b => b.k.safe r.e || behindB l b.iS i) = true)
      (h : ∀ (a : Act) (W : World), KeepW (GZ BL RL) w W → Had l a0 a → DepZ l a0 w KL kill AL i a W → W.ownsRow r.b r.e r.m r.v r.n r.xs → Region.wanted o (yielded l.toArray a.tmps) = true ∧ GivesT P (fun W' => W.grownBy W' r.v.ownBlock) (fun v W' => (KL.getD i .any).sat w.heap.size v W') ((execOp a.eval o).run P W))
  | new (x : Nat) (d : NewZ) (hx : AL[x]? = some d) (hi : d.iA = i) (hs : o.dst = some d.slot) (hS : ∀ d ∈ AL, d.iS ≠ i) (hB : ∀ b ∈ BL, b.iS ≠ i) (hR : ∀ r ∈ RL, r.iA ≠ i) (hA : ∀ (y : Nat) (e : NewZ), AL[y]? = some e → e.iA = i → y = x)
      (h : ∀ (a : Act) (W : World), Region.wanted o (yielded l.toArray a.tmps) = true ∧ (execOp a.eval o).run P W = .ok (.value (.pointer (some ⟨W.heap.size, 0, none⟩))) (W.alloc (.cells d.z d.t)))
  | put (x : Nat) (d : NewZ) (hx : AL[x]? = some d) (hi : d.iS = i) (hs : o.dst = none) (hA : ∀ d ∈ AL, d.iA ≠ i) (hB : ∀ b ∈ BL, b.iS ≠ i) (hR : ∀ r ∈ RL, r.iA ≠ i) (hS : ∀ (y : Nat) (e : NewZ), AL[y]? = some e → e.iS = i → y = x) (hw : Region.waitsFor .any l.toArray i d.iA = true) (m : Nat) (ty : TypeId) (X Y : Operand) (hop : o.op = .store ty X Y) (hX : X = .tmp d.slot)
      (hY : ∀ (a : Act) (W : World), KeepW (GZ BL RL) w W → Had l a0 a → DepZ l a0 w KL kill AL i a W → d.k.sat w.heap.size (a.eval Y) W ∧ (a.eval Y).cells.size = m ∧ (a.eval Y).cells.all (·.oneCell') = true) (hg : o.guard = none) (hsz : (P.info? ty).map (·.size) = some m) (hz : d.z.size = m)
  | putO (x : Nat) (b : OldZ) (hx : BL[x]? = some b) (hi : b.iS = i) (hs : o.dst = none) (hA : ∀ d ∈ AL, d.iA ≠ i ∧ d.iS ≠ i) (hS : ∀ (y : Nat) (e : OldZ), BL[y]? = some e → e.iS = i → y = x) (hR : ∀ r ∈ RL, r.iA ≠ i) (m : Nat) (ty : TypeId) (X Y : Operand) (hop : o.op = .store ty X Y) (hX : ∀ a : Act, Had l a0 a → a.eval X = .pointer (some ⟨b.g, 0, none⟩))
      (hY : ∀ (a : Act) (W : World), KeepW (GZ BL RL) w W → Had l a0 a → DepZ l a0 w KL kill AL i a W → b.k.sat w.heap.size (a.eval Y) W ∧ (a.eval Y).cells.size = m ∧ (a.eval Y).cells.all (·.oneCell') = true) (hg : o.guard = none) (hsz : (P.info? ty).map (·.size) = some m) (hz : b.old.size = m)
def AskAllZ (P : Program) (l : List Oper) (a0 : Act) (w : World) (KL : List Kp) (kill : List (Option Nat)) (AL : List NewZ) (BL : List OldZ) (RL : List RowZ) : Nat → List Oper → Prop
  | _, [] => True
  | i, o :: rest => AskZ P l a0 w KL kill AL BL RL i o ∧ AskAllZ P l a0 w KL kill AL BL RL (i + 1) rest
theorem AskAllZ.at {a0 : Act} {w : World} {KL : List Kp} {kill : List (Option Nat)} {AL : List NewZ} {BL : List OldZ} {RL : List RowZ} : ∀ {r : List Oper} {k : Nat}, AskAllZ P l a0 w KL kill AL BL RL k r → ∀ i o, r[i]? = some o → AskZ P l a0 w KL kill AL BL RL (k + i) o
  | [], _, _, i, o, h => by simp at h
  | x :: r, k, h, 0, o, ho => by
    simp only [List.getElem?_cons_zero, Option.some.injEq] at ho
    subst ho
    exact h.1
  | x :: r, k, h, i + 1, o, ho => by
    have := AskAllZ.at h.2 i o (by simpa using ho)
    rwa [show k + 1 + i = k + (i + 1) by omega] at this
def safeP (KL : List Kp) (AL : List NewZ) (BL : List OldZ) : Bool := (AL.map (·.t) ++ BL.map (·.t)).all fun t => KL.all (·.safe t) && (AL.all (·.k.safe t) && BL.all (·.k.safe t))
theorem safeP_at {KL : List Kp} {AL : List NewZ} {BL : List OldZ} (h : safeP KL AL BL = true) {t : TypeId} (ht : t ∈ AL.map (·.t) ∨ t ∈ BL.map (·.t)) : (∀ i, (KL.getD i .any).safe t = true) ∧ (∀ d ∈ AL, d.k.safe t = true) ∧ ∀ b ∈ BL, b.k.safe t = true := by
  have h1 := List.all_eq_true.1 h t (List.mem_append.2 ht)
  simp only [Bool.and_eq_true, List.all_eq_true] at h1
  obtain ⟨h2, h3, h4⟩ := h1
  refine ⟨fun i => ?_, h3, h4⟩
  rw [List.getD_eq_getElem?_getD]
  cases hk : KL[i]? with
  | none => rfl
  | some k => exact h2 k (List.mem_of_getElem? hk)
theorem filledP.keep {B : Nat} {k : Kp} {t : TypeId} {g : Nat} {W W' : World} {ob : Option Nat} (h : filledP B k t g W) (hg : W.grownBy W' ob) (h1 : some g ≠ ob) (h2 : ∀ g cur x, k.uses x → W.heap[g]? = some (.cells cur x (0, 0)) → some g ≠ ob) : filledP B k t g W' := by
  obtain ⟨V, h3, h4⟩ := h
  exact ⟨V, (hg.block g h3.lt h1).trans h3, Kp.keep hg h4 h2⟩
theorem run_storeP {W : World} {g : Nat} {t ty : TypeId} {old : Array Value} {V : Value} (hB : Blk W g t old) (hi : (P.info? ty).map (·.size) = some V.cells.size) (ho : old.size = V.cells.size) (h1 : V.cells.all (·.oneCell') = true) : (storeVar ty ⟨g, 0, none⟩ V).run P W = .ok () (W.setRow g V.cells) :=
  run_storeAny rfl hB hi ho h1
/-- what is concluded from an invariant of a region, whatever the order. -/
def RegionInv (P : Program) (l : List Oper) (a0 : Act) (w : World) (Q : Exit → Act → World → Prop) (C : Prop) : Prop :=
  ∀ Inv : (Nat → Bool) → Act → World → Prop, Inv (fun _ => false) a0 w.drew →
    (∀ L a W i o, Inv L a W → l[i]? = some o → L i = false → (∀ j, Region.waitsFor .any l.toArray i j = true → L j = true) →
      Region.wanted o (yielded l.toArray a.tmps) = true ∧ GivesT P (fun _ => True) (fun v W' => Inv (fun j => L j || j == i) (a.put o.dst v) W') ((execOp a.eval o).run P W)) →
    (∀ L a W, (∀ j, j < l.length → L j = true) → Inv L a W → Q .normal a W) → C
theorem region_p {C : Prop} {Q : Exit → Act → World → Prop} {a0 : Act} {w : World} (n : Nat) (KL : List Kp) (kill : List (Option Nat)) (AL : List NewZ) (BL : List OldZ) (RL : List RowZ) (hR : RegionInv P l a0 w Q C) (hB : looseB l n = true) (hn : a0.tmps.size = n)
    (hAd : ∀ d ∈ AL, d.iS < l.length ∧ ∃ o, l[d.iA]? = some o ∧ o.dst = some d.slot) (hBd : ∀ b ∈ BL, b.iS < l.length ∧ Blk w b.g b.t b.old) (hBn : ∀ (x y : Nat) (b c : OldZ), BL[x]? = some b → BL[y]? = some c → x ≠ y → b.g ≠ c.g) (hRd : ∀ r ∈ RL, w.ownsRow r.b r.e r.m r.v r.n r.xs ∧ ∀ b ∈ BL, r.v.ownBlock ≠ some b.g) (hsafe : safeP KL AL BL = true) (hop : AskAllZ P l a0 w KL kill AL BL RL 0 l)
    (hend : ∀ (a : Act) (W : World) (gs : Nat → Nat), PI l n a0 w KL kill AL BL RL (fun j => decide (j < l.length)) a W gs → Q .normal a W) : C := by
  refine hR (fun L a W => (∀ j, L j = true → j < l.length) ∧ ∃ gs, PI l n a0 w KL kill AL BL RL L a W gs) ⟨fun _ h => (by cases h), fun _ => 0, hn, rfl, fun s v _ h => h, fun _ _ h => (by cases h), KeepW.ofBelow (Below.refl _ _).drew, fun i o s _ _ h => (by cases h), fun x d _ h => (by cases h), fun x d _ h => (by cases h), fun x y d e _ _ _ h => (by cases h), fun _ _ _ _ => rfl, fun r hr _ => ownsRow_keep0 (hRd r hr).1 (below_grownP (Below.refl _ _).drew none) (by simp), fun b hb => ⟨fun _ => (hBd b hb).2, fun h => (by cases h)⟩⟩ ?_ ?_
  · rintro L a W i o ⟨hLl, gs, I⟩ hio hLi hwait
    have hil := (List.getElem?_eq_some_iff.1 hio).1
    have hAt := AskAllZ.at hop i o hio
    rw [Nat.zero_add] at hAt
    have hLl2 : ∀ j, (L j || j == i) = true → j < l.length := by
      intro j h
      by_cases e : j = i
      · rw [e]; exact hil
      · rw [beq_eq_false_iff_ne.2 e, Bool.or_false] at h
        exact hLl j h
    have hor : ∀ j, (L j || j == i) = true → j ≠ i → L j = true := by
      intro j h hne
      rw [beq_eq_false_iff_ne.2 hne, Bool.or_false] at h
      exact h
    have hclosed : ∀ i' j, (L i' || i' == i) = true → Region.waitsFor .any l.toArray i' j = true → (L j || j == i) = true := by
      intro i' j h1 h2
      by_cases e1 : i' = i
      · subst e1
        rw [hwait j h2]; rfl
      · rw [I.closed i' j (hor _ h1 e1) h2]; rfl
    have hbehind : ∀ q, behindB l q i = true → L q = false := by
      intro q hb
      cases hq : L q with
      | false => rfl
      | true =>
        unfold behindB at hb
        simp only [Bool.or_eq_true, List.any_eq_true, Bool.and_eq_true] at hb
        rcases hb with hb | ⟨k, _, h1, h2⟩
        · have := I.closed q i hq hb; rw [hLi] at this; cases this
        · have := I.closed k i (I.closed q k hq h1) h2; rw [hLi] at this; cases this
    have hdep : DepZ l a0 w KL kill AL i a W := by
      refine ⟨?_, fun j s v h1 h2 h3 => by rw [I.held j s h1 (hbehind j h2)]; exact h3⟩
      intro j s hb hnew hk
      simp only [depB, Bool.and_eq_true] at hb
      obtain ⟨h1, h2⟩ := hb
      cases hj : l[j]? with
      | none => rw [hj] at h2; cases h2
      | some oj =>
        rw [hj] at h2
        refine I.val j oj s hj (by simpa using h2) (hwait j h1) hnew fun K hK => ?_
        rcases hk K hK with h3 | h3
        · rw [h3]; exact hLi
        · cases hq : L K with
          | false => rfl
          | true => have := I.closed K i hq h3; rw [hLi] at this; cases this
    have heldK : ∀ (v : Value) (j s : Nat), dstB l j s = true → (L j || j == i) = false → (a.put o.dst v).tmps[s]? = a0.tmps[s]? := by
      intro v j s h1 h2
      simp only [Bool.or_eq_false_iff] at h2
      rw [← I.held j s h1 h2.1]
      have hji : j ≠ i := fun e => by rw [e, beq_self_eq_true] at h2; exact absurd h2.2 (by simp)
      unfold dstB at h1
      cases hj : l[j]? with
      | none => rw [hj] at h1; cases h1
      | some oj =>
        rw [hj] at h1
        have hd : oj.dst = some s := by simpa using h1
        cases hs : o.dst with
        | none => rfl
        | some s2 => exact put_ne fun e => hji (looseB_dst hB hio hs hj (e ▸ hd))
    have hkilled : ∀ q, killedB l kill q i = true → ∃ K, kill.getD q none = some K ∧ (L K || K == i) = true := by
      intro q h
      unfold killedB at h
      cases hk : kill.getD q none with
      | none => rw [hk] at h; cases h
      | some K =>
        rw [hk] at h
        simp only [Bool.or_eq_true, beq_iff_eq] at h
        rcases h with h | h
        · exact ⟨K, rfl, by rw [h, beq_self_eq_true, Bool.or_true]⟩
        · exact ⟨K, rfl, by rw [hwait K h, Bool.true_or]⟩
    have hold : ∀ (v : Value) (s' : Nat) (v' : Value), l.all (fun o => o.dst != some s') = true → a0.tmps[s']? = some v' → (a.put o.dst v).tmps[s']? = some v' := by
      intro v s' v' h1 h2
      cases hs : o.dst with
      | none => exact I.had s' v' h1 h2
      | some s =>
        have : s ≠ s' := by
          rintro rfl
          have := List.all_eq_true.1 h1 o (List.mem_of_getElem? hio)
          rw [hs] at this
          simp at this
        rw [put_ne this]
        exact I.had s' v' h1 h2
    have hkeep : ∀ (j : Nat) (oj : Oper) (s' : Nat) (v u : Value), l[j]? = some oj → oj.dst = some s' → j ≠ i → a.tmps[s']? = some u → (a.put o.dst v).tmps[s']? = some u := by
      intro j oj s' v u hj hd hne h
      cases hs : o.dst with
      | none => exact h
      | some s =>
        have : s ≠ s' := by
          rintro rfl
          exact hne (looseB_dst hB hio hs hj hd)
        rw [put_ne this]; exact h
    -- what was known of values stays known
    have vals : ∀ (v : Value) (W' : World) (ob : Option Nat), W.grownBy W' ob → (∀ j, L j = true → (∃ K, kill.getD j none = some K ∧ (L K || K == i) = true) ∨ ∀ g cur x, (KL.getD j .any).uses x → W.heap[g]? = some (.cells cur x (0, 0)) → some g ≠ ob) →
        ∀ (j : Nat) (oj : Oper) (s : Nat), l[j]? = some oj → oj.dst = some s → (L j || j == i) = true → (∀ d ∈ AL, d.iA ≠ j) → (∀ K, kill.getD j none = some K → (L K || K == i) = false) → j ≠ i → ∃ u, (a.put o.dst v).tmps[s]? = some u ∧ (KL.getD j .any).sat w.heap.size u W' := by
      intro v W' ob hg hs j oj s hj hd hL hnew hK hne
      have hL0 := hor j hL hne
      obtain ⟨u, h1, h2⟩ := I.val j oj s hj hd hL0 hnew fun K hk => by have := hK K hk; simp only [Bool.or_eq_false_iff] at this; exact this.1
      refine ⟨u, hkeep j oj s v u hj hd hne h1, Kp.keep hg h2 ?_⟩
      rcases hs j hL0 with h3 | h3
      · obtain ⟨K, h4, h5⟩ := h3
        rw [hK K h4] at h5
        cases h5
      · exact h3
    have rblk : ∀ r ∈ RL, ∀ g, r.v.ownBlock = some g → g < w.heap.size := fun r hr g hg => own_lt_size (hRd r hr).1 hg
    have rowsKeep : ∀ (W' : World) (ob : Option Nat), W.grownBy W' ob → (∀ r ∈ RL, r.iA ≠ i) → (∀ r ∈ RL, ∀ g, r.v.ownBlock = some g → some g ≠ ob) → ∀ r ∈ RL, (L r.iA || r.iA == i) = false → W'.ownsRow r.b r.e r.m r.v r.n r.xs := by
      intro W' ob hg _ hne r hr hL
      simp only [Bool.or_eq_false_iff] at hL
      exact ownsRow_keep0 (I.rows r hr hL.1) hg (hne r hr)
    cases hAt with
    | appO s r hr hi hs hA hBi h1 hK hAe hBe h =>
      have hRow := I.rows r hr (by rw [hi]; exact hLi)
      obtain ⟨hw, hg⟩ := h a W I.keep I.had hdep hRow
      refine ⟨hw, ?_⟩
      have hsn : s < a.tmps.size := by rw [I.tsz]; exact looseB_lt hB hio hs
      have hub : ∀ g, r.v.ownBlock = some g → ∃ cur, W.heap[g]? = some (.cells cur r.e (0, 0)) := by
        intro g hgq
        rcases hRow.2 with ⟨h2, _⟩ | ⟨g2, cap, cur, h2, _, hh, _⟩
        · rw [h2] at hgq; simp [Value.ownBlock] at hgq
        · rw [h2] at hgq
          have : g2 = g := by simpa [Value.ownBlock] using hgq
          subst this
          exact ⟨cur, hh⟩
      have hty : ∀ (g : Nat) (cur : Array Value) (x : TypeId), x ≠ r.e → W.heap[g]? = some (.cells cur x (0, 0)) → some g ≠ r.v.ownBlock := by
        intro g cur x hx hh hq
        obtain ⟨cur2, h2⟩ := hub g hq.symm
        rw [hh] at h2
        injection h2 with h2
        injection h2 with _ h3 _
        exact hx h3
      have key : ∀ v W', W.grownBy W' r.v.ownBlock → (KL.getD i .any).sat w.heap.size v W' → (∀ j, (L j || j == i) = true → j < l.length) ∧ ∃ gs, PI l n a0 w KL kill AL BL RL (fun j => L j || j == i) (a.put o.dst v) W' gs := by
        intro v W' hgr hTv
        refine ⟨hLl2, gs, by rw [put_size]; exact I.tsz, by rw [put_defers]; exact I.defers, hold v, hclosed, I.keep.grown hgr (fun k hk => .inr (List.mem_append_right _ (List.mem_flatMap.2 ⟨r, hr, by simp [hk]⟩))), fun j oj s' hj hd hL hnew hK' => ?_, fun x d hx hL => ?_, fun x d hx hL => ?_, fun x y d e hx hy hne h1 h2 => ?_, heldK v, fun r2 hr2 hL => ?_, fun b hb' => ?_⟩
        · by_cases e1 : j = i
          · subst e1
            have e2 : oj = o := Option.some.inj (hj.symm.trans hio)
            subst e2
            have e3 : s' = s := Option.some.inj (hd.symm.trans hs)
            subst e3
            exact ⟨v, by rw [hs, put_same hsn], hTv⟩
          · refine vals v W' _ hgr (fun q hq => ?_) j oj s' hj hd hL hnew hK' e1
            have h1 := List.all_eq_true.1 hK q (List.mem_range.2 (hLl q hq))
            simp only [Bool.or_eq_true] at h1
            rcases h1 with ((h1 | h1) | h1) | h1
            · exact .inr fun g cur x hx hh => hty g cur x (fun e0 => Kp.safe_uses h1 (e0 ▸ hx)) hh
            · exact .inl (hkilled q h1)
            · rw [hbehind q h1] at hq; cases hq
            · rw [beq_iff_eq.1 h1, hLi] at hq; cases hq
        · have hne := hA d (List.mem_of_getElem? hx)
          have := I.ord x d hx (hor _ hL hne.2)
          simp [this]
        · have hne := hA d (List.mem_of_getElem? hx)
          obtain ⟨b1, b2, b3, b4⟩ := I.blk x d hx (hor _ hL hne.1)
          obtain ⟨_, oA, hoA, hdA⟩ := hAd d (List.mem_of_getElem? hx)
          have eS : (L d.iS || d.iS == i) = L d.iS := by rw [beq_eq_false_iff_ne.2 hne.2, Bool.or_false]
          have hde := List.all_eq_true.1 hAe d (List.mem_of_getElem? hx)
          simp only [Bool.or_eq_true] at hde
          have hfar : some (gs x) ≠ r.v.ownBlock := fun q => by have := rblk r hr _ q.symm; omega
          refine ⟨hkeep _ oA _ v _ hoA hdA hne.1 b1, b2, fun q => ?_, fun q => ?_⟩
          · have b := b3 (eS ▸ q)
            exact (hgr.block _ b.lt hfar).trans b
          · have q' : L d.iS = true := eS ▸ q
            refine (b4 q').keep hgr hfar ?_
            rcases hde with h1 | h1
            · exact fun g cur x hx hh => hty g cur x (fun e0 => Kp.safe_uses h1 (e0 ▸ hx)) hh
            · rw [hbehind _ h1] at q'; cases q'
        · exact I.apart x y d e hx hy hne (hor _ h1 (hA d (List.mem_of_getElem? hx)).1) (hor _ h2 (hA e (List.mem_of_getElem? hy)).1)
        · have e0 : r2 = r := by
            match RL, h1, hr, hr2 with
            | [q], _, hr, hr2 => rw [List.mem_singleton.1 hr, List.mem_singleton.1 hr2]
          rw [e0, hi, beq_self_eq_true, Bool.or_true] at hL
          cases hL
        · have hne := hBi b hb'
          obtain ⟨b3, b4⟩ := I.old b hb'
          have eS : (L b.iS || b.iS == i) = L b.iS := by rw [beq_eq_false_iff_ne.2 hne, Bool.or_false]
          have hde := List.all_eq_true.1 hBe b hb'
          simp only [Bool.or_eq_true] at hde
          have hfar : some b.g ≠ r.v.ownBlock := fun q => (hRd r hr).2 b hb' q.symm
          refine ⟨fun q => ?_, fun q => ?_⟩
          · have b := b3 (eS ▸ q)
            exact (hgr.block _ b.lt hfar).trans b
          · have q' : L b.iS = true := eS ▸ q
            refine (b4 q').keep hgr hfar ?_
            rcases hde with h1 | h1
            · exact fun g cur x hx hh => hty g cur x (fun e0 => Kp.safe_uses h1 (e0 ▸ hx)) hh
            · rw [hbehind _ h1] at q'; cases q'
      generalize (execOp a.eval o).run P W = r' at hg
      cases r' with
      | ok x w' =>
        cases x <;> simp only [GivesT] at hg
        case value u => exact ⟨trivial, key _ _ hg.1 hg.2⟩
        case skip => exact ⟨trivial, key _ _ hg.1 hg.2⟩
        case enter f' args =>
          show Calls P f' args w' _
          refine hg.mono ?_
          rintro e w'' ⟨v, rfl, h1, h2⟩
          exact ⟨v, rfl, trivial, key _ _ h1 h2⟩
      | halt x w' => simp only [GivesT] at hg
    | val s hs hA hBi hRi h =>
      obtain ⟨hw, hg⟩ := h a W I.keep I.had hdep
      refine ⟨hw, ?_⟩
      have hsn : s < a.tmps.size := by rw [I.tsz]; exact looseB_lt hB hio hs
      have key : ∀ v W', Below W.heap.size W W' → (KL.getD i .any).sat w.heap.size v W' → (∀ j, (L j || j == i) = true → j < l.length) ∧ ∃ gs, PI l n a0 w KL kill AL BL RL (fun j => L j || j == i) (a.put o.dst v) W' gs := by
        intro v W' hb hTv
        have hgr := below_grownP hb none
        refine ⟨hLl2, gs, by rw [put_size]; exact I.tsz, by rw [put_defers]; exact I.defers, hold v, hclosed, I.keep.grown hgr (fun k hk => by cases hk), fun j oj s' hj hd hL hnew hK => ?_, fun x d hx hL => ?_, fun x d hx hL => ?_, fun x y d e hx hy hne h1 h2 => ?_, heldK v, rowsKeep W' none hgr hRi (fun _ _ _ _ => by simp), fun b hb' => ?_⟩
        · by_cases e1 : j = i
          · subst e1
            have e2 : oj = o := Option.some.inj (hj.symm.trans hio)
            subst e2
            have e3 : s' = s := Option.some.inj (hd.symm.trans hs)
            subst e3
            exact ⟨v, by rw [hs, put_same hsn], hTv⟩
          · exact vals v W' none hgr (fun j _ => .inr fun g cur x _ _ => by simp) j oj s' hj hd hL hnew hK e1
        · have hne := hA d (List.mem_of_getElem? hx)
          have := I.ord x d hx (hor _ hL hne.2)
          simp [this]
        · have hne := hA d (List.mem_of_getElem? hx)
          obtain ⟨b1, b2, b3, b4⟩ := I.blk x d hx (hor _ hL hne.1)
          obtain ⟨_, oA, hoA, hdA⟩ := hAd d (List.mem_of_getElem? hx)
          have eS : (L d.iS || d.iS == i) = L d.iS := by rw [beq_eq_false_iff_ne.2 hne.2, Bool.or_false]
          refine ⟨hkeep _ oA _ v _ hoA hdA hne.1 b1, b2, fun q => ?_, fun q => ?_⟩
          · have b := b3 (eS ▸ q); exact b.below hb b.lt
          · exact (b4 (eS ▸ q)).keep hgr (by simp) fun g cur x _ _ => by simp
        · exact I.apart x y d e hx hy hne (hor _ h1 (hA d (List.mem_of_getElem? hx)).1) (hor _ h2 (hA e (List.mem_of_getElem? hy)).1)
        · have hne := hBi b hb'
          obtain ⟨b3, b4⟩ := I.old b hb'
          have eS : (L b.iS || b.iS == i) = L b.iS := by rw [beq_eq_false_iff_ne.2 hne, Bool.or_false]
          refine ⟨fun q => ?_, fun q => ?_⟩
          · have b := b3 (eS ▸ q); exact b.below hb b.lt
          · exact (b4 (eS ▸ q)).keep hgr (by simp) fun g cur x _ _ => by simp
      generalize (execOp a.eval o).run P W = r at hg
      cases r with
      | ok x w' =>
        cases x <;> simp only [GivesT] at hg
        case value u => exact ⟨trivial, key _ _ hg.1 hg.2⟩
        case skip => exact ⟨trivial, key _ _ hg.1 hg.2⟩
        case enter f' args =>
          show Calls P f' args w' _
          refine hg.mono ?_
          rintro e w'' ⟨v, rfl, h1, h2⟩
          exact ⟨v, rfl, trivial, key _ _ h1 h2⟩
      | halt x w' => simp only [GivesT] at hg
    | app s jd sj e m c xs hs hA hBi hRi hjd hjn hkj hKj hK hAe hBe h =>
      obtain ⟨u, hu1, hu2⟩ := hdep.1 jd sj hjd hjn (fun K hk => .inl (by rw [hkj] at hk; exact (Option.some.inj hk).symm))
      rw [hKj] at hu2
      have hu2 : W.ownsRow w.heap.size e m u c xs := hu2
      obtain ⟨hw, hg⟩ := h a W u I.keep I.had hdep hu1 hu2
      refine ⟨hw, ?_⟩
      have hsn : s < a.tmps.size := by rw [I.tsz]; exact looseB_lt hB hio hs
      have hub : ∀ g, u.ownBlock = some g → w.heap.size ≤ g ∧ ∃ cur, W.heap[g]? = some (.cells cur e (0, 0)) := by
        intro g hgq
        rcases hu2.2 with ⟨rfl, _⟩ | ⟨g2, cap, cur, rfl, h2, hh, _⟩
        · simp [Value.ownBlock] at hgq
        · have : g2 = g := by simpa [Value.ownBlock] using hgq
          subst this
          exact ⟨h2, cur, hh⟩
      have hty : ∀ (g : Nat) (cur : Array Value) (x : TypeId), x ≠ e → W.heap[g]? = some (.cells cur x (0, 0)) → some g ≠ u.ownBlock := by
        intro g cur x hx hh hq
        obtain ⟨_, cur2, h2⟩ := hub g hq.symm
        rw [hh] at h2
        injection h2 with h2
        injection h2 with _ h3 _
        exact hx h3
      have key : ∀ v W', W.grownBy W' u.ownBlock → (KL.getD i .any).sat w.heap.size v W' → (∀ j, (L j || j == i) = true → j < l.length) ∧ ∃ gs, PI l n a0 w KL kill AL BL RL (fun j => L j || j == i) (a.put o.dst v) W' gs := by
        intro v W' hgr hTv
        refine ⟨hLl2, gs, by rw [put_size]; exact I.tsz, by rw [put_defers]; exact I.defers, hold v, hclosed, I.keep.grown hgr (fun k hk => .inl (hub k hk).1), fun j oj s' hj hd hL hnew hK' => ?_, fun x d hx hL => ?_, fun x d hx hL => ?_, fun x y d e hx hy hne h1 h2 => ?_, heldK v, rowsKeep W' _ hgr hRi (fun r hr g h0 h9 => by have h7 := rblk r hr g h0; have h8 := (hub g h9.symm).1; omega), fun b hb' => ?_⟩
        · by_cases e1 : j = i
          · subst e1
            have e2 : oj = o := Option.some.inj (hj.symm.trans hio)
            subst e2
            have e3 : s' = s := Option.some.inj (hd.symm.trans hs)
            subst e3
            exact ⟨v, by rw [hs, put_same hsn], hTv⟩
          · refine vals v W' _ hgr (fun q hq => ?_) j oj s' hj hd hL hnew hK' e1
            have h1 := List.all_eq_true.1 hK q (List.mem_range.2 (hLl q hq))
            simp only [Bool.or_eq_true] at h1
            rcases h1 with ((h1 | h1) | h1) | h1
            · exact .inr fun g cur x hx hh => hty g cur x (fun e0 => Kp.safe_uses h1 (e0 ▸ hx)) hh
            · exact .inl (hkilled q h1)
            · rw [hbehind q h1] at hq; cases hq
            · rw [beq_iff_eq.1 h1, hLi] at hq; cases hq
        · have hne := hA d (List.mem_of_getElem? hx)
          have := I.ord x d hx (hor _ hL hne.2)
          simp [this]
        · have hne := hA d (List.mem_of_getElem? hx)
          obtain ⟨b1, b2, b3, b4⟩ := I.blk x d hx (hor _ hL hne.1)
          obtain ⟨_, oA, hoA, hdA⟩ := hAd d (List.mem_of_getElem? hx)
          have eS : (L d.iS || d.iS == i) = L d.iS := by rw [beq_eq_false_iff_ne.2 hne.2, Bool.or_false]
          have hde := List.all_eq_true.1 hAe d (List.mem_of_getElem? hx)
          simp only [Bool.and_eq_true, Bool.or_eq_true] at hde
          refine ⟨hkeep _ oA _ v _ hoA hdA hne.1 b1, b2, fun q => ?_, fun q => ?_⟩
          · have b := b3 (eS ▸ q)
            exact (hgr.block _ b.lt (hty _ _ _ (beq_no hde.1) b)).trans b
          · have q' : L d.iS = true := eS ▸ q
            obtain ⟨V, hV1, hV2⟩ := b4 q'
            refine filledP.keep ⟨V, hV1, hV2⟩ hgr (hty _ _ _ (beq_no hde.1) hV1) ?_
            rcases hde.2 with h1 | h1
            · exact fun g cur x hx hh => hty g cur x (fun e0 => Kp.safe_uses h1 (e0 ▸ hx)) hh
            · rw [hbehind _ h1] at q'; cases q'
        · exact I.apart x y d e hx hy hne (hor _ h1 (hA d (List.mem_of_getElem? hx)).1) (hor _ h2 (hA e (List.mem_of_getElem? hy)).1)
        · have hne := hBi b hb'
          obtain ⟨b3, b4⟩ := I.old b hb'
          have eS : (L b.iS || b.iS == i) = L b.iS := by rw [beq_eq_false_iff_ne.2 hne, Bool.or_false]
          have hde := List.all_eq_true.1 hBe b hb'
          simp only [Bool.and_eq_true, Bool.or_eq_true] at hde
          refine ⟨fun q => ?_, fun q => ?_⟩
          · have b := b3 (eS ▸ q)
            exact (hgr.block _ b.lt (hty _ _ _ (beq_no hde.1) b)).trans b
          · have q' : L b.iS = true := eS ▸ q
            obtain ⟨V, hV1, hV2⟩ := b4 q'
            refine filledP.keep ⟨V, hV1, hV2⟩ hgr (hty _ _ _ (beq_no hde.1) hV1) ?_
            rcases hde.2 with h1 | h1
            · exact fun g cur x hx hh => hty g cur x (fun e0 => Kp.safe_uses h1 (e0 ▸ hx)) hh
            · rw [hbehind _ h1] at q'; cases q'
      generalize (execOp a.eval o).run P W = r at hg
      cases r with
      | ok x w' =>
        cases x <;> simp only [GivesT] at hg
        case value u => exact ⟨trivial, key _ _ hg.1 hg.2⟩
        case skip => exact ⟨trivial, key _ _ hg.1 hg.2⟩
        case enter f' args =>
          show Calls P f' args w' _
          refine hg.mono ?_
          rintro e w'' ⟨v, rfl, h1, h2⟩
          exact ⟨v, rfl, trivial, key _ _ h1 h2⟩
      | halt x w' => simp only [GivesT] at hg
    | new x d hx hi hs hS hBi hRi hA h =>
      obtain ⟨hw, hr⟩ := h a W
      refine ⟨hw, ?_⟩
      rw [hr]
      have hb : Below W.heap.size W (W.alloc (.cells d.z d.t)) := (Below.refl _ _).alloc (Nat.le_refl _) _
      have hgr := below_grownP hb none
      have hsn : d.slot < a.tmps.size := by rw [I.tsz]; exact looseB_lt hB hio hs
      refine ⟨trivial, hLl2, fun y => if y = x then W.heap.size else gs y, by rw [put_size]; exact I.tsz, by rw [put_defers]; exact I.defers, hold _, hclosed, I.keep.grown hgr (fun k hk => by cases hk), fun j oj s' hj hd hL hnew hK => ?_, fun y e hy hL => ?_, fun y e hy hL => ?_, fun y y2 e e2 hy hy2 hne h1 h2 => ?_, heldK _, rowsKeep _ none hgr hRi (fun _ _ _ _ => by simp), fun b hb' => ?_⟩
      · have e1 : j ≠ i := fun q => hnew d (List.mem_of_getElem? hx) (hi.trans q.symm)
        exact vals _ _ none hgr (fun j _ => .inr fun g cur x _ _ => by simp) j oj s' hj hd hL hnew hK e1
      · have := I.ord y e hy (hor _ hL (hS e (List.mem_of_getElem? hy)))
        simp [this]
      · have hSe := hS e (List.mem_of_getElem? hy)
        have eS : (L e.iS || e.iS == i) = L e.iS := by rw [beq_eq_false_iff_ne.2 hSe, Bool.or_false]
        by_cases he : y = x
        · subst he
          have e1 : e = d := Option.some.inj (hy.symm.trans hx)
          subst e1
          have hLS : L e.iS = false := by
            cases hq : L e.iS with
            | false => rfl
            | true => have := I.ord y e hy hq; rw [hi, hLi] at this; cases this
          rw [if_pos rfl, hs, put_same hsn]
          refine ⟨rfl, I.keep.size, fun _ => Blk.new _ _ _, fun q => ?_⟩
          have q : L e.iS = true := eS ▸ q
          rw [hLS] at q
          cases q
        · have hne : e.iA ≠ i := fun q => he (hA y e hy q)
          obtain ⟨b1, b2, b3, b4⟩ := I.blk y e hy (hor _ hL hne)
          obtain ⟨_, oA, hoA, hdA⟩ := hAd e (List.mem_of_getElem? hy)
          rw [if_neg he]
          refine ⟨hkeep _ oA _ _ _ hoA hdA hne b1, b2, fun q => ?_, fun q => ?_⟩
          · have b := b3 (eS ▸ q); exact b.below hb b.lt
          · exact (b4 (eS ▸ q)).keep hgr (by simp) fun g cur x _ _ => by simp
      · have lt : ∀ (y : Nat) (e : NewZ), AL[y]? = some e → L e.iA = true → gs y < W.heap.size := by
          intro y e hy hL
          obtain ⟨_, _, b3, b4⟩ := I.blk y e hy hL
          cases hq : L e.iS with
          | false => exact (b3 hq).lt
          | true => obtain ⟨V, h1, _⟩ := b4 hq; exact h1.lt
        by_cases q1 : y = x
        · have q2 : y2 ≠ x := fun q => hne (q1.trans q.symm)
          rw [if_pos q1, if_neg q2]
          have := lt y2 e2 hy2 (hor _ h2 (fun q => q2 (hA y2 e2 hy2 q)))
          omega
        · rw [if_neg q1]
          have hl1 := hor _ h1 (fun q => q1 (hA y e hy q))
          by_cases q2 : y2 = x
          · rw [if_pos q2]
            have := lt y e hy hl1
            omega
          · rw [if_neg q2]
            exact I.apart y y2 e e2 hy hy2 hne hl1 (hor _ h2 (fun q => q2 (hA y2 e2 hy2 q)))
      · have hne := hBi b hb'
        obtain ⟨b3, b4⟩ := I.old b hb'
        have eS : (L b.iS || b.iS == i) = L b.iS := by rw [beq_eq_false_iff_ne.2 hne, Bool.or_false]
        refine ⟨fun q => ?_, fun q => ?_⟩
        · have b := b3 (eS ▸ q); exact b.below hb b.lt
        · exact (b4 (eS ▸ q)).keep hgr (by simp) fun g cur x _ _ => by simp
    | put x d hx hi hs hA hBi hRi hS hw m ty X Y hop' hX hY hg hsz hz =>
      have hdm := List.mem_of_getElem? hx
      have hLA : L d.iA = true := hwait _ hw
      obtain ⟨b1, b2, b3, _⟩ := I.blk x d hx hLA
      have b3 := b3 (by rw [hi]; exact hLi)
      obtain ⟨y1, y2, y3⟩ := hY a W I.keep I.had hdep
      obtain ⟨V, hV⟩ : ∃ V, a.eval Y = V := ⟨_, rfl⟩
      rw [hV] at y1 y2 y3
      have hrun : (execOp a.eval o).run P W = .ok .skip (W.setRow (gs x) V.cells) := by
        unfold execOp
        simp only [hop', hX, eval_tmp b1, hV]
        have := run_storeP (P := P) (ty := ty) b3 (by rw [y2]; exact hsz) (by rw [hz, y2]) y3
        simp [Instr.storeAt, Instr.sureAddr, this]
      refine ⟨by simp [Region.wanted, hg], ?_⟩
      rw [hrun]
      have hgr := grown_setRow W (gs x) V.cells
      have hsf := safeP_at hsafe (t := d.t) (.inl (List.mem_map.2 ⟨d, hdm, rfl⟩))
      have hty : ∀ (g : Nat) (cur : Array Value) (q : TypeId), q ≠ d.t → W.heap[g]? = some (.cells cur q (0, 0)) → some g ≠ some (gs x) := by
        intro g cur q hq hh e
        injection e with e
        subst e
        rw [b3] at hh
        injection hh with hh
        injection hh with _ h3 _
        exact hq h3.symm
      have huse : ∀ {k : Kp}, k.safe d.t = true → ∀ g cur q, k.uses q → W.heap[g]? = some (.cells cur q (0, 0)) → some g ≠ some (gs x) :=
        fun hk g cur q hq hh => hty g cur q (fun e0 => Kp.safe_uses hk (e0 ▸ hq)) hh
      refine ⟨trivial, hLl2, gs, by rw [put_size]; exact I.tsz, by rw [put_defers]; exact I.defers, hold _, hclosed, I.keep.grown hgr (fun k hk => .inl (by injection hk with hk; omega)), fun j oj s' hj hd hL hnew hK => ?_, fun y e hy hL => ?_, fun y e hy hL => ?_, fun y y2 e e2 hy hy2 hne q1 q2 => ?_, heldK _, rowsKeep _ _ hgr hRi (fun r hr g h0 h9 => by have h7 := rblk r hr g h0; injection h9 with h9; omega), fun b hb' => ?_⟩
      · have hji : j ≠ i := by
          rintro rfl
          have e1 : oj = o := Option.some.inj (hj.symm.trans hio)
          subst e1
          rw [hs] at hd; cases hd
        exact vals _ _ _ hgr (fun j _ => .inr (huse (hsf.1 j))) j oj s' hj hd hL hnew hK hji
      · by_cases he : y = x
        · subst he
          have e1 : e = d := Option.some.inj (hy.symm.trans hx)
          subst e1
          simp [hLA]
        · have := I.ord y e hy (hor _ hL (fun q => he (hS y e hy q)))
          simp [this]
      · have hLe := hor _ hL (hA e (List.mem_of_getElem? hy))
        obtain ⟨c1, c2, c3, c4⟩ := I.blk y e hy hLe
        rw [hs]
        refine ⟨c1, c2, ?_⟩
        by_cases he : y = x
        · subst he
          have e1 : e = d := Option.some.inj (hy.symm.trans hx)
          subst e1
          have hq : (L e.iS || e.iS == i) = true := by rw [hi, beq_self_eq_true, Bool.or_true]
          exact ⟨fun q => (by rw [hq] at q; cases q), fun _ => ⟨V, b3.row _, Kp.keep hgr y1 (huse (hsf.2.1 e hdm))⟩⟩
        · have hSe : e.iS ≠ i := fun q => he (hS y e hy q)
          have eS : (L e.iS || e.iS == i) = L e.iS := by rw [beq_eq_false_iff_ne.2 hSe, Bool.or_false]
          have hap := I.apart y x e d hy hx he hLe hLA
          refine ⟨fun q => (c3 (eS ▸ q)).rowFar hap _, fun q => (c4 (eS ▸ q)).keep hgr (fun e0 => hap (Option.some.inj e0)) (huse (hsf.2.1 e (List.mem_of_getElem? hy)))⟩
      · exact I.apart y y2 e e2 hy hy2 hne (hor _ q1 (hA e (List.mem_of_getElem? hy))) (hor _ q2 (hA e2 (List.mem_of_getElem? hy2)))
      · have hne := hBi b hb'
        obtain ⟨c3, c4⟩ := I.old b hb'
        have eS : (L b.iS || b.iS == i) = L b.iS := by rw [beq_eq_false_iff_ne.2 hne, Bool.or_false]
        have hlt : b.g < w.heap.size := (hBd b hb').2.lt
        have hap : b.g ≠ gs x := by omega
        refine ⟨fun q => (c3 (eS ▸ q)).rowFar hap _, fun q => (c4 (eS ▸ q)).keep hgr (fun e0 => hap (Option.some.inj e0)) (huse (hsf.2.2 b hb'))⟩
    | putO x d hx hi hs hA hS hRi m ty X Y hop' hX hY hg hsz hz =>
      have hdm := List.mem_of_getElem? hx
      obtain ⟨b3, _⟩ := I.old d hdm
      have b3 := b3 (by rw [hi]; exact hLi)
      obtain ⟨y1, y2, y3⟩ := hY a W I.keep I.had hdep
      have hXe := hX a I.had
      obtain ⟨V, hV⟩ : ∃ V, a.eval Y = V := ⟨_, rfl⟩
      rw [hV] at y1 y2 y3
      have hrun : (execOp a.eval o).run P W = .ok .skip (W.setRow d.g V.cells) := by
        unfold execOp
        simp only [hop', hXe, hV]
        have := run_storeP (P := P) (ty := ty) b3 (by rw [y2]; exact hsz) (by rw [hz, y2]) y3
        simp [Instr.storeAt, Instr.sureAddr, this]
      refine ⟨by simp [Region.wanted, hg], ?_⟩
      rw [hrun]
      have hgr := grown_setRow W d.g V.cells
      have hsf := safeP_at hsafe (t := d.t) (.inr (List.mem_map.2 ⟨d, hdm, rfl⟩))
      have hty : ∀ (g : Nat) (cur : Array Value) (q : TypeId), q ≠ d.t → W.heap[g]? = some (.cells cur q (0, 0)) → some g ≠ some d.g := by
        intro g cur q hq hh e
        injection e with e
        subst e
        rw [b3] at hh
        injection hh with hh
        injection hh with _ h3 _
        exact hq h3.symm
      have huse : ∀ {k : Kp}, k.safe d.t = true → ∀ g cur q, k.uses q → W.heap[g]? = some (.cells cur q (0, 0)) → some g ≠ some d.g :=
        fun hk g cur q hq hh => hty g cur q (fun e0 => Kp.safe_uses hk (e0 ▸ hq)) hh
      refine ⟨trivial, hLl2, gs, by rw [put_size]; exact I.tsz, by rw [put_defers]; exact I.defers, hold _, hclosed, I.keep.grown hgr (fun k hk => .inr (by injection hk with hk; exact List.mem_append_left _ (List.mem_map.2 ⟨d, hdm, hk⟩))), fun j oj s' hj hd hL hnew hK => ?_, fun y e hy hL => ?_, fun y e hy hL => ?_, fun y y2 e e2 hy hy2 hne q1 q2 => ?_, heldK _, rowsKeep _ _ hgr hRi (fun r hr g h0 h9 => (hRd r hr).2 d hdm (h0.trans h9)), fun b hb' => ?_⟩
      · have hji : j ≠ i := by
          rintro rfl
          have e1 : oj = o := Option.some.inj (hj.symm.trans hio)
          subst e1
          rw [hs] at hd; cases hd
        exact vals _ _ _ hgr (fun j _ => .inr (huse (hsf.1 j))) j oj s' hj hd hL hnew hK hji
      · have hne := hA e (List.mem_of_getElem? hy)
        have := I.ord y e hy (hor _ hL hne.2)
        simp [this]
      · have hne := hA e (List.mem_of_getElem? hy)
        obtain ⟨c1, c2, c3, c4⟩ := I.blk y e hy (hor _ hL hne.1)
        have eS : (L e.iS || e.iS == i) = L e.iS := by rw [beq_eq_false_iff_ne.2 hne.2, Bool.or_false]
        have hlt : d.g < w.heap.size := (hBd d hdm).2.lt
        have hap : gs y ≠ d.g := by omega
        rw [hs]
        exact ⟨c1, c2, fun q => (c3 (eS ▸ q)).rowFar hap _, fun q => (c4 (eS ▸ q)).keep hgr (fun e0 => hap (Option.some.inj e0)) (huse (hsf.2.1 e (List.mem_of_getElem? hy)))⟩
      · exact I.apart y y2 e e2 hy hy2 hne (hor _ q1 (hA e (List.mem_of_getElem? hy)).1) (hor _ q2 (hA e2 (List.mem_of_getElem? hy2)).1)
      · obtain ⟨y, hy⟩ := List.mem_iff_getElem?.1 hb'
        obtain ⟨c3, c4⟩ := I.old b hb'
        by_cases he : y = x
        · subst he
          have e1 : b = d := Option.some.inj (hy.symm.trans hx)
          subst e1
          have hq : (L b.iS || b.iS == i) = true := by rw [hi, beq_self_eq_true, Bool.or_true]
          exact ⟨fun q => (by rw [hq] at q; cases q), fun _ => ⟨V, b3.row _, Kp.keep hgr y1 (huse (hsf.2.2 b hdm))⟩⟩
        · have hSe : b.iS ≠ i := fun q => he (hS y b hy q)
          have eS : (L b.iS || b.iS == i) = L b.iS := by rw [beq_eq_false_iff_ne.2 hSe, Bool.or_false]
          have hap := hBn y x b d hy hx he
          exact ⟨fun q => (c3 (eS ▸ q)).rowFar hap _, fun q => (c4 (eS ▸ q)).keep hgr (fun e0 => hap (Option.some.inj e0)) (huse (hsf.2.2 b hb'))⟩
  · rintro L a W hall ⟨hLl, gs, I⟩
    have hL : L = fun j => decide (j < l.length) := by
      funext j
      cases hq : L j with
      | true => exact (decide_eq_true (hLl j hq)).symm
      | false =>
        by_cases hj : j < l.length
        · rw [hall j hj] at hq; cases hq
        · exact (decide_eq_false hj).symm
    subst hL
    exact hend a W gs I
theorem wp_region_p {id : Nat} {Q : Exit → Act → World → Prop} {a0 : Act} {w : World} (n : Nat) (KL : List Kp) (kill : List (Option Nat)) (AL : List NewZ) (BL : List OldZ) (RL : List RowZ) (hm : P.follows .mixedOrders = true) (hB : looseB l n = true) (hn : a0.tmps.size = n)
    (hAd : ∀ d ∈ AL, d.iS < l.length ∧ ∃ o, l[d.iA]? = some o ∧ o.dst = some d.slot) (hBd : ∀ b ∈ BL, b.iS < l.length ∧ Blk w b.g b.t b.old) (hBn : ∀ (x y : Nat) (b c : OldZ), BL[x]? = some b → BL[y]? = some c → x ≠ y → b.g ≠ c.g) (hRd : ∀ r ∈ RL, w.ownsRow r.b r.e r.m r.v r.n r.xs ∧ ∀ b ∈ BL, r.v.ownBlock ≠ some b.g) (hsafe : safeP KL AL BL = true) (hop : AskAllZ P l a0 w KL kill AL BL RL 0 l)
    (hend : ∀ (a : Act) (W : World) (gs : Nat → Nat), PI l n a0 w KL kill AL BL RL (fun j => decide (j < l.length)) a W gs → Q .normal a W) : (Code.region id l.toArray true).wp P Q a0 w :=
  region_p n KL kill AL BL RL (fun Inv h0 hs he => wp_region_inv n hm hB Inv h0 hs he) hB hn hAd hBd hBn hRd hsafe hop hend
theorem wpIn_region_p {id : Nat} {lr m : Nat} {Q : Exit → Act → World → Prop} {a0 : Act} {w : World} (n : Nat) (KL : List Kp) (kill : List (Option Nat)) (AL : List NewZ) (BL : List OldZ) (RL : List RowZ) (hm : P.follows .mixedOrders = true) (hnd : (l.all fun o => match o.op with | .defer _ => false | _ => true) = true) (hB : looseB l n = true) (hn : a0.tmps.size = n)
    (hAd : ∀ d ∈ AL, d.iS < l.length ∧ ∃ o, l[d.iA]? = some o ∧ o.dst = some d.slot) (hBd : ∀ b ∈ BL, b.iS < l.length ∧ Blk w b.g b.t b.old) (hBn : ∀ (x y : Nat) (b c : OldZ), BL[x]? = some b → BL[y]? = some c → x ≠ y → b.g ≠ c.g) (hRd : ∀ r ∈ RL, w.ownsRow r.b r.e r.m r.v r.n r.xs ∧ ∀ b ∈ BL, r.v.ownBlock ≠ some b.g) (hsafe : safeP KL AL BL = true) (hop : AskAllZ P l a0 w KL kill AL BL RL 0 l)
    (hend : ∀ (a : Act) (W : World) (gs : Nat → Nat), PI l n a0 w KL kill AL BL RL (fun j => decide (j < l.length)) a W gs → Q .normal a W) : (Code.region id l.toArray true).wpIn (Fence.wide.inRound lr) m P Q a0 w :=
  region_p n KL kill AL BL RL (fun Inv h0 hs he => wpIn_region_inv n hm hnd hB Inv h0 hs he) hB hn hAd hBd hBn hRd hsafe hop hend
end
end Go.Proofs.YtconhhhggckcbaaDoor
/- Helpers for drawn regions of known predicates; results that lie in cells. No program in sight. -/
namespace Go.Proofs.YtconhhhggckcbaaDoor
open Go.RowKit
variable {D : List Deferred}

section
variable {P : Program} {l : List Oper} {w w0 W W' : World} {B B' : Nat} {a : Act} {o : Oper} {c : Value} {k : Kp}
theorem ownsRow_mono {e : TypeId} {m n : Nat} {v : Value} {xs : List Value} (h : W.ownsRow B' e m v n xs) (hB : B ≤ B') : W.ownsRow B e m v n xs := by
  refine ⟨h.1, ?_⟩
  rcases h.2 with h1 | ⟨g, cap, cur, h1, h2, h3⟩
  · exact .inl h1
  · exact .inr ⟨g, cap, cur, h1, Nat.le_trans hB h2, h3⟩
theorem Kp.mono (hB : B ≤ B') : ∀ {k : Kp} {v : Value}, k.sat B' v W → k.sat B v W
  | .any, _, _ => trivial
  | .val _, _, h => h
  | .row _ _ _ _, _, h => ownsRow_mono h hB
  | .rowO _ _ _ _ _ _, _, ⟨h1, h2⟩ => ⟨h1, h2.imp id fun h3 g hg => Nat.le_trans hB (h3 g hg)⟩
  | .rows2 _ _ _ _, _, ⟨US, h1, h2, h3⟩ => ⟨US, ownsRow_mono h1 hB, h2, fun q n xs hq => (h3 q n xs hq).imp fun _ h => ⟨h.1, ownsRow_mono h.2 hB⟩⟩
  | .new _ _ _, _, ⟨g, h1, h2⟩ => ⟨g, Nat.le_trans hB h1, h2⟩
  | .st _, _, ⟨u, h1, h2⟩ => ⟨u, h1, Kp.mono hB h2⟩
  | .tup2 _ _, _, ⟨x, y, h1, h2, h3⟩ => ⟨x, y, h1, Kp.mono hB h2, Kp.mono hB h3⟩
  | .tup4 _ _ _ _, _, ⟨x, y, z, u, h1, h2, h3, h4, h5⟩ => ⟨x, y, z, u, h1, Kp.mono hB h2, Kp.mono hB h3, Kp.mono hB h4, Kp.mono hB h5⟩
theorem givz_run (h : (execOp a.eval o).run P W = .ok (.value c) W) (hk : k.sat B c W) : GivesT P (Below W.heap.size W) (fun v W' => k.sat B v W') ((execOp a.eval o).run P W) := by
  rw [h]
  exact ⟨Below.refl _ _, hk⟩
theorem givz_call {f : FuncId} {args : Array Value} (hrun : (execOp a.eval o).run P W = .ok (.enter f args) W) (hB : B ≤ W.heap.size) (hc : Calls P f args W fun e w' => ∃ u, e = .returned u ∧ k.sat W.heap.size u w' ∧ Below W.heap.size W w') : GivesT P (Below W.heap.size W) (fun v W' => k.sat B v W') ((execOp a.eval o).run P W) := by
  rw [hrun]
  refine hc.mono ?_
  rintro e w' ⟨u, h1, h2, h3⟩
  exact ⟨u, h1, h3, Kp.mono hB h2⟩
theorem givz_callV {f : FuncId} {args : Array Value} (hrun : (execOp a.eval o).run P W = .ok (.enter f args) W) (hc : Calls P f args W fun e w' => e = .returned c ∧ Below W.heap.size W w') : GivesT P (Below W.heap.size W) (fun v W' => (Kp.val c).sat B v W') ((execOp a.eval o).run P W) := by
  rw [hrun]
  exact hc.mono fun e w' h => ⟨c, h.1, h.2, rfl⟩
theorem givz_new (t : TypeId) (cs : Array Value) (n : Nat) (hB : B ≤ W.heap.size) (h : (execOp a.eval o).run P W = .ok (.value (.slice (some ⟨W.heap.size, 0, none⟩) n n)) (W.alloc (.cells cs t))) : GivesT P (Below W.heap.size W) (fun v W' => (Kp.new t cs n).sat B v W') ((execOp a.eval o).run P W) := by
  rw [h]
  exact ⟨(Below.refl _ _).alloc (Nat.le_refl _) _, W.heap.size, hB, rfl, Blk.new _ _ _⟩
/-- a new slice that is its own row. -/
theorem givz_newRow (t : TypeId) (cs : Array Value) (m n : Nat) (hB : B ≤ W.heap.size) (hs : cs.size = n * m) (hn : n ≤ maxLen) (h : (execOp a.eval o).run P W = .ok (.value (.slice (some ⟨W.heap.size, 0, none⟩) n n)) (W.alloc (.cells cs t))) : GivesT P (Below W.heap.size W) (fun v W' => (Kp.row t m n cs.toList).sat B v W') ((execOp a.eval o).run P W) := by
  rw [h]
  refine ⟨(Below.refl _ _).alloc (Nat.le_refl _) _, ?_, .inr ⟨W.heap.size, n, cs, rfl, hB, heap_alloc_new W _, Nat.le_refl _, hn, hs, ?_⟩⟩
  · simpa using hs
  · exact List.take_of_length_le (by simp [hs])
theorem givz_app {t e : TypeId} {size bytes n0 m c g : Nat} {xs news : List Value} {u : Value} {x y : Operand} (E : ElT P t e size bytes) (ho : o.op = .call { callee := .builtin .append, args := #[x, y], argTypes := #[t, t] }) (hx : a.eval x = u) (hy : a.eval y = .slice (some ⟨g, 0, none⟩) m c) (hO : W.ownsRow B e size u n0 xs) (hB : B ≤ W.heap.size)
    (hl : news.length = m * size) (hnews : Blk W g e news.toArray) (h1 : ∀ u ∈ news, u.oneCell' = true) (h63 : n0 + m ≤ maxLen) (hbytes : (n0 + m) * bytes ≤ 140737488355328) : GivesT P (fun W' => W.grownBy W' u.ownBlock) (fun v W' => (Kp.row e size (n0 + m) (xs ++ news)).sat B v W') ((execOp a.eval o).run P W) := by
  obtain ⟨i, z, hi, hz, hsz, hby, hzs⟩ := E.inf
  obtain ⟨v2, w2, hr, h2, h3, h4⟩ := run_append_own (P := P) W B t o.type e i z size bytes E.un hi hz hsz hby hzs E.pos u n0 xs hO ⟨g, 0, none⟩ m c news hl (blkNews hnews) h1 h63 hbytes hB
  have hr2 : (execOp a.eval o).run P W = .ok (.value v2) w2 := by
    unfold execOp
    simp only [ho, resolve, invoke, builtin, Sem.run_bind, Sem.run_pure, Result.andThen_ok, List.map_toArray, List.map_cons, List.map_nil, hx, hy, hr]
  rw [hr2]
  exact ⟨h3, h2⟩
theorem DepZ.getz {KL : List Kp} {kill : List (Option Nat)} {AL : List NewZ} {i j s : Nat} {a0 : Act} (h : DepZ l a0 w KL kill AL i a W) (hb : depB l i j s = true) (hA : ∀ d ∈ AL, d.iA ≠ j) (hk : kill.getD j none = none) (hK : KL.getD j .any = k) : ∃ v, a.tmps[s]? = some v ∧ k.sat w.heap.size v W := by
  rw [← hK]
  exact h.1 j s hb hA fun K hk2 => by rw [hk] at hk2; cases hk2
theorem DepZ.valz {KL : List Kp} {kill : List (Option Nat)} {AL : List NewZ} {i j s : Nat} {a0 : Act} (h : DepZ l a0 w KL kill AL i a W) (hb : depB l i j s = true) (hA : ∀ d ∈ AL, d.iA ≠ j) (hk : kill.getD j none = none) (hK : KL.getD j .any = .val c) : a.tmps[s]? = some c := by
  obtain ⟨v, h1, h2⟩ := h.getz hb hA hk hK
  have h2 : v = c := h2
  rw [h1, h2]
theorem DepZ.getKz {KL : List Kp} {kill : List (Option Nat)} {AL : List NewZ} {i j s : Nat} {a0 : Act} (h : DepZ l a0 w KL kill AL i a W) (hb : depB l i j s = true) (hA : ∀ d ∈ AL, d.iA ≠ j) (hk : kill.getD j none = some i) (hK : KL.getD j .any = k) : ∃ v, a.tmps[s]? = some v ∧ k.sat w.heap.size v W := by
  rw [← hK]
  exact h.1 j s hb hA fun K hk2 => by rw [hk] at hk2; exact .inl (Option.some.inj hk2).symm
theorem KeepW.below (h : KeepW [] w W) : Below w.heap.size w W := ⟨h.os, h.tape, h.output, h.size, fun k hk => h.block k hk (by simp)⟩
theorem OwnR.addFar {M : List (Nat × (Obj → Prop))} {e : TypeId} {size m g : Nat} {v : Value} {xs : List Value} {S : Obj → Prop} (h : OwnR w0 M W e size v m xs) (hne : v.ownBlock ≠ some g) : OwnR w0 ((g, S) :: M) W e size v m xs := by
  refine ⟨h.owns, fun x hx => ?_⟩
  rcases List.mem_cons.1 hx with rfl | hx
  · exact hne
  · exact h.far x hx
theorem own_ne_ty {e t : TypeId} {size m g : Nat} {v : Value} {xs : List Value} {cs : Array Value} (h : W.ownsRow B e size v m xs) (hB : Blk W g t cs) (ht : (!(Nat.beq t e)) = true) : v.ownBlock ≠ some g := by
  intro hq
  rcases h.2 with ⟨rfl, _⟩ | ⟨g2, cap, cur, rfl, _, hh, _⟩
  · simp [Value.ownBlock] at hq
  · have : g2 = g := by simpa [Value.ownBlock] using hq
    subst this
    rw [hB] at hh
    injection hh with hh
    injection hh with _ h3 _
    exact beq_no ht h3
theorem own_ne_ge {e : TypeId} {size m g : Nat} {v : Value} {xs : List Value} (h : W.ownsRow B e size v m xs) (hg : W.heap.size ≤ g) : v.ownBlock ≠ some g := by
  intro hq
  have := own_lt_size h hq
  omega
theorem owns_keepT {G : List Nat} {e : TypeId} {m n : Nat} {u : Value} {xs : List Value} (h : w.ownsRow B e m u n xs) (hk : KeepW G w W) (hG : ∀ g ∈ G, ∃ cur t, w.heap[g]? = some (.cells cur t (0, 0)) ∧ (!(Nat.beq t e)) = true) : W.ownsRow B e m u n xs := by
  refine ⟨h.1, ?_⟩
  rcases h.2 with h1 | ⟨g, cap, cur, h1, h2, hh, h3⟩
  · exact .inl h1
  · refine .inr ⟨g, cap, cur, h1, h2, (hk.block g (lt_of_ob hh) fun hg => ?_).trans hh, h3⟩
    obtain ⟨cur2, t, h4, h5⟩ := hG g hg
    rw [hh] at h4
    injection h4 with h4
    injection h4 with _ h6 _
    exact beq_no h5 h6.symm
theorem mem_far_new {M : List (Nat × (Obj → Prop))} {g : Nat} (hM : Mem w0 M w) (hg : w.heap.size ≤ g) : ∀ y ∈ M, y.1 ≠ g := fun _ hy => Nat.ne_of_lt (Nat.lt_of_lt_of_le (hM.lt hy) hg)
theorem one_own {e : TypeId} {size m : Nat} {v : Value} {xs : List Value} (h : W.ownsRow B e size v m xs) : (#[v].all (·.oneCell')) = true := by
  rcases h.2 with ⟨rfl, _⟩ | ⟨g, cap, cur, rfl, _⟩ <;> exact arr_one rfl
theorem own_slice {e : TypeId} {size m : Nat} {v : Value} {xs : List Value} (h : W.ownsRow B e size v m xs) : ∃ p n c, v = .slice p n c := by
  rcases h.2 with ⟨rfl, _⟩ | ⟨g, cap, cur, rfl, _⟩ <;> exact ⟨_, _, _, rfl⟩
theorem run_blt1 {t : TypeId} {x : Operand} {v : Value} (ho : o.op = .build t #[(0, x)]) (hx : a.eval x = v) (hv : ∃ p n c, v = .slice p n c) (hb : ∀ p n c, P.built t [(0, .slice p n c)] = some #[.slice p n c]) : (execOp a.eval o).run P W = .ok (.value (.agg #[v])) W := by
  obtain ⟨p, n, c, rfl⟩ := hv
  exact run_blt (vs := #[(0, .slice p n c)]) ho (bltE1 hx) (hb p n c)
theorem flat_lenG {α : Type} {f : α → List Value} {m : Nat} (hf : ∀ x, (f x).length = m) (l : List α) : (l.flatMap f).length = l.length * m := by
  induction l with
  | nil => simp
  | cons x l ih => rw [List.flatMap_cons, List.length_append, ih, hf, List.length_cons, Nat.add_mul, Nat.one_mul, Nat.add_comm]
/-- the capacity is no less than the length. -/
def capOk (v : Value) : Prop := ∀ a k c, v = .slice a k c → k ≤ c
/-- the front of a slice. -/
def slTo : Value → Nat → Value
  | .slice a _ c, n => .slice a n c
  | v, _ => v
theorem Sl.front {α : Type} {f : α → List Value} {m n : Nat} {l : List α} {v : Value} (hf : ∀ x, (f x).length = m) (h : Sl W v m l.length (l.flatMap f)) (hn : n ≤ l.length) : Sl W (slTo v n) m (l.take n).length ((l.take n).flatMap f) := by
  have hl : (l.take n).length = n := by rw [List.length_take]; omega
  refine ⟨flat_lenG hf _, ?_⟩
  rcases h.2 with ⟨⟨a, c, rfl⟩, h2⟩ | ⟨b, o, c, rfl, hb, hc⟩
  · exact .inl ⟨⟨a, c, by rw [show n = 0 by omega]; rfl⟩, by omega⟩
  · refine .inr ⟨b, o, c, by rw [hl]; rfl, hb, fun j u hu => hc j u ?_⟩
    have hj : j < ((l.take n).flatMap f).length := (List.getElem?_eq_some_iff.1 hu).1
    rw [← List.take_append_drop n l, List.flatMap_append, List.getElem?_append_left hj]
    exact hu
end
section
variable {P : Program} {a : Act} {w w0 : World} {n : Nat} {L : List (Nat × Value)} {M : List (Nat × (Obj → Prop))}
/-- a result of one cell. -/
theorem loadVar_one {ty t : TypeId} {g : Nat} {v : Value} (hB : Blk w g t #[v]) (hag : (isAgg ty).run P w = .ok false w) : (loadVar ty ⟨g, 0, none⟩).run P w = .ok v w := by
  have hc : w.cell? ⟨g, 0, none⟩ = some v := by rw [hB.cell]; rfl
  simp [loadVar, hag, go_sem, hc]
theorem loadVar_all {ty t : TypeId} {g m : Nat} {cs : Array Value} {d : TypeDesc} (hB : Blk w g t cs) (hu : P.underlying ty = some d) (hd : (match d with | .struct _ | .array _ _ => true | _ => false) = true) (hi : (P.info? ty).map (·.size) = some m) (hm : cs.size = m) : (loadVar ty ⟨g, 0, none⟩).run P w = .ok (.agg cs) w :=
  run_loadVar_row w g t ty cs (0, 0) d hB hu hd (by rw [hm]; exact hi)
theorem results_L {fn : Func} {s g : Nat} {ty : TypeId} {v : Value} (hF : FrD D a n L) (hr : fn.results = #[.cell s ty]) (hl : lk L s = some (.pointer (some ⟨g, 0, none⟩))) (h1 : (loadVar ty ⟨g, 0, none⟩).run P w = .ok v w) : (results fn a.tmps).run P w = .ok v w := by
  have e1 : a.tmps[s]?.getD undef = .pointer (some ⟨g, 0, none⟩) := by rw [hF.at s hl]; rfl
  simp [results, hr, e1, asAddr, h1]
theorem results_LL {fn : Func} {s s2 g g2 : Nat} {ty ty2 : TypeId} {v v2 : Value} (hF : FrD D a n L) (hr : fn.results = #[.cell s ty, .cell s2 ty2]) (hl : lk L s = some (.pointer (some ⟨g, 0, none⟩))) (hl2 : lk L s2 = some (.pointer (some ⟨g2, 0, none⟩))) (h1 : (loadVar ty ⟨g, 0, none⟩).run P w = .ok v w) (h2 : (loadVar ty2 ⟨g2, 0, none⟩).run P w = .ok v2 w) : (results fn a.tmps).run P w = .ok (.tuple #[v, v2]) w := by
  have e1 : a.tmps[s]?.getD undef = .pointer (some ⟨g, 0, none⟩) := by rw [hF.at s hl]; rfl
  have e2 : a.tmps[s2]?.getD undef = .pointer (some ⟨g2, 0, none⟩) := by rw [hF.at s2 hl2]; rfl
  simp [results, hr, e1, e2, asAddr, h1, h2]
theorem results_LLTT {fn : Func} {s s2 s3 s4 g g2 : Nat} {ty ty2 : TypeId} {v v2 v3 v4 : Value} (hF : FrD D a n L) (hr : fn.results = #[.cell s ty, .cell s2 ty2, .tmp s3, .tmp s4]) (hl : lk L s = some (.pointer (some ⟨g, 0, none⟩))) (hl2 : lk L s2 = some (.pointer (some ⟨g2, 0, none⟩))) (h1 : (loadVar ty ⟨g, 0, none⟩).run P w = .ok v w) (h2 : (loadVar ty2 ⟨g2, 0, none⟩).run P w = .ok v2 w)
    (hl3 : lk L s3 = some v3) (hl4 : lk L s4 = some v4) : (results fn a.tmps).run P w = .ok (.tuple #[v, v2, v3, v4]) w := by
  have e1 : a.tmps[s]?.getD undef = .pointer (some ⟨g, 0, none⟩) := by rw [hF.at s hl]; rfl
  have e2 : a.tmps[s2]?.getD undef = .pointer (some ⟨g2, 0, none⟩) := by rw [hF.at s2 hl2]; rfl
  have e3 : a.tmps[s3]?.getD undef = v3 := by rw [hF.at s3 hl3]; rfl
  have e4 : a.tmps[s4]?.getD undef = v4 := by rw [hF.at s4 hl4]; rfl
  simp [results, hr, e1, e2, e3, e4, asAddr, h1, h2]
theorem retV {fn : Func} {R : Ending → World → Prop} {v : Value} (hF : Fr a n L) (hr : (results fn a.tmps).run P w = .ok v w) (h : R (.returned v) w) : bodyPost P fn R .ret a w := bodyPost_ret hr hF.defers h
theorem retVM {fn : Func} {R : Ending → World → Prop} {v : Value} (hF : Fr a n L) (hr : (results fn a.tmps).run P w = .ok v w) (h : R (.returned v) w) : bodyPostM Fence.wide 0 P fn R .ret a w := by
  show LeavesInM Fence.wide 0 P fn a.tmps R a.defers .returning w
  rw [hF.defers]
  exact ⟨_, hr, h⟩
theorem retVK {fn : Func} {R : Ending → World → Prop} {v : Value} {e j : Nat} (hF : FrD [mark e] a n L) (hM : Mem w0 M w) (hj : M[j]? = some (e, isO (.deferred (some [])))) (h : ∀ w2, Mem w0 (M.set j (e, isO (.deferred none))) w2 → w.grownBy w2 (some e) → (results fn a.tmps).run P w2 = .ok v w2 ∧ R (.returned v) w2) : bodyPostM Fence.wide 0 P fn R .ret a w := by
  show LeavesInM Fence.wide 0 P fn a.tmps R a.defers .returning w
  rw [hF.defers]
  have hM2 := hM.putO j hj (.deferred none)
  obtain ⟨h1, h2⟩ := h _ hM2 (grownBy_putObj' w e _)
  exact ⟨by simp, .inl ⟨_, _, rfl, run_takeDeferred (hM.obj j hj), _, h1, h2⟩⟩
theorem run_eqnil {o : Oper} {x y : Operand} {t t2 e : TypeId} {ad : Option Addr} {m c : Nat} (ho : o.op = .binOp .eql t x y t2) (hx : a.eval x = .slice ad m c) (hy : a.eval y = .slice none 0 0) (hu : P.underlying t = some (.slice e)) : (execOp a.eval o).run P w = .ok (.value (.bool ad.isNone)) w := by
  have h9 : ∀ d : Nat, (Op.equalIn (d + 1) t (.slice ad m c) (.slice none 0 0)).run P w = .ok ad.isNone w := by
    intro d
    cases ad <;> simp [Op.equalIn, run_underlying hu]
  refine run_bin ho hx hy (by simp [eqGuard, go_sem]) ?_
  simp only [binOp]
  simp [Op.equal, Op.maxDepth, h9 9999]
end
end Go.Proofs.YtconhhhggckcbaaDoor
