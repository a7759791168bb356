/- Laws and walks that many claims share: Late, NewR, Defer. -/
import Derived.Test.YtconhhhggckcbaaDoorBaseB
import Derived.Defers
import Derived.Test.YtconhhhggckcbaaDoorOpsB
/- Drawn regions whose store into one block may come ahead of reads: all other operations have one value each. No program in sight. -/
namespace Go.Proofs.YtconhhhggckcbaaDoor
open Go.RowKit
variable {D : List Deferred}

section
variable {P : Program} {l : List Oper} {w w0 W : World} {M : List (Nat × (Obj → Prop))} {j g m : Nat} {t : TypeId} {old cs : Array Value}
def isAny (t : TypeId) : Obj → Prop := fun ob => ∃ cs, ob = .cells cs t (0, 0)
theorem Alm.grown (h : Alm w [(g, t, m)] W) : w.grownBy W (some g) :=
  ⟨h.os, h.tape, h.output, h.size, fun k hk hne => h.old k hk fun x hx => by
    simp only [List.mem_cons, List.not_mem_nil, or_false] at hx
    subst hx
    exact fun e => hne (by rw [← e])⟩
theorem Mem.alm (hM : Mem w0 M w) (j : Nat) (e : M[j]? = some (g, isB t old)) (hS : Alm w [(g, t, m)] W) : Mem w0 (M.set j (g, isAny t)) W := by
  obtain ⟨_, cs, hB, _⟩ := hS.row (g, t, m) (by simp)
  exact hM.upd j e hS.grown ⟨_, hB, cs, rfl⟩
def onlyB (l : List Oper) (q : Nat) : Bool := (List.range l.length).all fun i => match l[i]? with | some o => o.dst.isSome || i == q | none => true
end
section
variable {P : Program} {l : List Oper} {a0 : Act} {w : World} {rs : List (Nat × TypeId × Nat)} {KL : List (Kr w.heap.size)} {i : Nat} {o : Oper} {W : World} {a : Act}
end
end Go.Proofs.YtconhhhggckcbaaDoor
/- Drawn regions that make blocks and store into them: all other operations have one value each. No program in sight. -/
namespace Go.Proofs.YtconhhhggckcbaaDoor
open Go.RowKit

section
variable {P : Program} {l : List Oper}
/-- whatever holds step by step, in whatever order. -/
theorem wp_region_inv {id : Nat} {Q : Exit → Act → World → Prop} {a0 : Act} {w : World} (n : Nat) (hm : P.follows .mixedOrders = true) (hB : looseB l n = true) (Inv : (Nat → Bool) → Act → World → Prop) (h0 : Inv (fun _ => false) a0 w.drew)
    (hstep : ∀ (L : Nat → Bool) a W i o, Inv L a W → l[i]? = some o → L i = false → (∀ j, Region.waitsFor .any l.toArray i j = true → L j = true) →
      Region.wanted o (yielded l.toArray a.tmps) = true ∧ GivesT P (fun _ => True) (fun v W' => Inv (fun j => L j || j == i) (a.put o.dst v) W') ((execOp a.eval o).run P W))
    (hend : ∀ L a W, (∀ j, j < l.length → L j = true) → Inv L a W → Q .normal a W) : (Code.region id l.toArray true).wp P Q a0 w := by
  refine wp_region_any hm ?_
  have main : ∀ (f : Nat) (listed : Array Bool) (a : Act) (W : World), listed.size = l.length → openN l.length listed = f → Inv (fun j => listed.getD j false) a W → wpAny P .any l.toArray Q f listed a W := by
    intro f
    induction f with
    | zero =>
      intro listed a W hsz hf hI
      have hno : Region.ready .any l.toArray listed = [] := by
        refine Classical.byContradiction fun hc => ?_
        obtain ⟨j, hj⟩ := List.exists_mem_of_ne_nil _ hc
        obtain ⟨hu, o, ho, _⟩ := mem_ready.1 hj
        have hjl : j < l.length := by simpa using (Array.getElem?_eq_some_iff.1 ho).1
        have := openN_set l.length listed j hjl hsz hu
        omega
      refine ⟨hno, hend _ a W (fun j hj => ?_) hI⟩
      have hjs : j < listed.size := by omega
      cases hu : listed.getD j true with
      | true =>
        simp only [Array.getD_eq_getD_getElem?, Array.getElem?_eq_getElem hjs, Option.getD_some] at hu ⊢
        exact hu
      | false =>
        have := openN_set l.length listed j hj hsz hu
        omega
    | succ f ih =>
      intro listed a W hsz hf hI
      refine ⟨fun h => absurd h (ready_of_open hB hsz (by omega)), fun i hi => ?_⟩
      obtain ⟨hu, o, ho, hwait⟩ := mem_ready.1 hi
      have hio : l[i]? = some o := by simpa using ho
      have hil := (List.getElem?_eq_some_iff.1 hio).1
      have his : i < listed.size := by omega
      have hL0 : listed.getD i false = false := by
        simp only [Array.getD_eq_getD_getElem?, Array.getElem?_eq_getElem his, Option.getD_some] at hu ⊢
        exact hu
      have hext : (fun j => (listed.setIfInBounds i true).getD j false) = fun j => listed.getD j false || j == i := by
        funext j
        simp only [Array.getD_eq_getD_getElem?, Array.getElem?_setIfInBounds]
        by_cases hj : i = j
        · subst hj; simp [his]
        · rw [if_neg hj, beq_eq_false_iff_ne.2 (fun e => hj e.symm), Bool.or_false]
      have hlist : ∀ j, Region.waitsFor .any l.toArray i j = true → listed.getD j false = true := by
        intro j hj
        obtain ⟨o', ho', e, he, hb, hon⟩ := Region.waitsFor_spec hj
        have e1 : o' = o := Option.some.inj (ho'.symm.trans ho)
        subst e1
        rw [← hon]; exact hwait e he hb
      have go : ∀ v W', Inv (fun j => listed.getD j false || j == i) (a.put o.dst v) W' → wpAny P .any l.toArray Q f (listed.setIfInBounds i true) (a.put o.dst v) W' := by
        intro v W' h
        exact ih _ _ _ (by simpa using hsz) (by have := openN_set l.length listed i hil hsz hu; omega) (by rw [hext]; exact h)
      obtain ⟨hw, hg⟩ := hstep _ a W i o hI hio hL0 hlist
      unfold wpOp
      simp only [ho]
      rw [if_pos hw]
      left
      unfold Oper.wp
      generalize (execOp a.eval o).run P W = r at hg
      cases r with
      | ok x w' =>
        cases x <;> simp only [GivesT] at hg
        case value u => exact go _ _ hg.2
        case skip => exact go _ _ hg.2
        case enter f' args =>
          show Calls P f' args w' _
          refine hg.mono ?_
          rintro e w'' ⟨v, rfl, _, h2⟩
          exact go _ _ h2
      | halt x w' => simp only [GivesT] at hg
  have h1 : openN l.length (Array.replicate l.toArray.size false) = l.toArray.size := by
    unfold openN
    have : ((List.range l.length).filter fun i => (Array.replicate l.toArray.size false).getD i true == false) = List.range l.length := by
      apply List.filter_eq_self.2
      intro i hi
      rw [List.mem_range] at hi
      simp [hi]
    rw [this]; simp
  refine main _ _ _ _ (by simp) h1 ?_
  have e : (fun j => (Array.replicate l.toArray.size false).getD j false) = fun _ => false := by funext j; exact getD_replicate_false _ _
  rw [e]
  exact h0
theorem put_same {a : Act} {s : Nat} {v : Value} (h : s < a.tmps.size) : (a.put (some s) v).tmps[s]? = some v := by simp [Act.put, h]
theorem put_ne {a : Act} {s s2 : Nat} {v : Value} (h : s ≠ s2) : (a.put (some s) v).tmps[s2]? = a.tmps[s2]? := by
  simp only [Act.put, Array.getElem?_setIfInBounds]
  rw [if_neg h]
theorem put_size {a : Act} {s : Option Nat} {v : Value} : (a.put s v).tmps.size = a.tmps.size := by cases s <;> simp [Act.put]
theorem put_defers {a : Act} {s : Option Nat} {v : Value} : (a.put s v).defers = a.defers := by cases s <;> simp [Act.put]
/-- a block that is made by operation iA (its address lies in the slot), and filled by operation iS. -/
structure NewD where
  iA : Nat
  slot : Nat
  iS : Nat
  t : TypeId
  z : Array Value
  cs : Array Value
structure NewI (l : List Oper) (n : Nat) (a0 : Act) (w0 : World) (M : List (Nat × (Obj → Prop))) (VL : List (Option Value)) (SL : List (Option (List (List UInt8)))) (AL : List NewD) (L : Nat → Bool) (a : Act) (W : World) (gs : Nat → Nat) : Prop where
  size : a.tmps.size = n
  defers : a.defers = a0.defers
  had : Had l a0 a
  val : ∀ (i : Nat) (o : Oper) (s : Nat) (c : Value), l[i]? = some o → o.dst = some s → L i = true → VL.getD i none = some c → a.tmps[s]? = some c
  str : ∀ (i : Nat) (o : Oper) (s : Nat) (X : List (List UInt8)), l[i]? = some o → o.dst = some s → L i = true → SL.getD i none = some X → (∀ d ∈ AL, L d.iS = false) → ∃ v, a.tmps[s]? = some v ∧ Strs W v X
  closed : ∀ d ∈ AL, L d.iS = true → ∀ j, Region.waitsFor .any l.toArray d.iS j = true → L j = true
  mem : Mem w0 M W
  ord : ∀ (x : Nat) (d : NewD), AL[x]? = some d → L d.iS = true → L d.iA = true
  blk : ∀ (x : Nat) (d : NewD), AL[x]? = some d → L d.iA = true → a.tmps[d.slot]? = some (.pointer (some ⟨gs x, 0, none⟩)) ∧ w0.heap.size ≤ gs x ∧ Blk W (gs x) d.t (cond (L d.iS) d.cs d.z) ∧ ∀ y ∈ M, y.1 ≠ gs x
  apart : ∀ (x y : Nat) (d e : NewD), AL[x]? = some d → AL[y]? = some e → x ≠ y → L d.iA = true → L e.iA = true → gs x ≠ gs y
/-- what is asked of an operation: a value, a new block, or a store into one. -/
inductive AskN (P : Program) (l : List Oper) (a0 : Act) (w0 : World) (M : List (Nat × (Obj → Prop))) (VL : List (Option Value)) (SL : List (Option (List (List UInt8)))) (AL : List NewD) (i : Nat) (o : Oper) : Prop
  | val (s : Nat) (T : Value → World → Prop) (hs : o.dst = some s) (hT : ∀ v W, T v W → (∀ c, VL.getD i none = some c → v = c) ∧ ∀ X, SL.getD i none = some X → Strs W v X) (hA : ∀ d ∈ AL, d.iA ≠ i ∧ d.iS ≠ i)
      (h : ∀ (a : Act) (W : World), Mem w0 M W → Had l a0 a → (∀ (j s : Nat) (c : Value), depB l i j s = true → VL.getD j none = some c → a.tmps[s]? = some c) →
        ((∀ d ∈ AL, Region.waitsFor .any l.toArray d.iS i = true) → ∀ (j s : Nat) (X : List (List UInt8)), depB l i j s = true → SL.getD j none = some X → ∃ v, a.tmps[s]? = some v ∧ Strs W v X) → Region.wanted o (yielded l.toArray a.tmps) = true ∧ GivesT P (Below W.heap.size W) T ((execOp a.eval o).run P W))
  | new (x : Nat) (d : NewD) (hx : AL[x]? = some d) (hi : d.iA = i) (hs : o.dst = some d.slot) (hv : VL.getD i none = none) (hsl : SL.getD i none = none) (hS : ∀ d ∈ AL, d.iS ≠ i) (hA : ∀ (y : Nat) (e : NewD), AL[y]? = some e → e.iA = i → y = x)
      (h : ∀ (a : Act) (W : World), Region.wanted o (yielded l.toArray a.tmps) = true ∧ (execOp a.eval o).run P W = .ok (.value (.pointer (some ⟨W.heap.size, 0, none⟩))) (W.alloc (.cells d.z d.t)))
  | put (x : Nat) (d : NewD) (hx : AL[x]? = some d) (hi : d.iS = i) (hs : o.dst = none) (hA : ∀ d ∈ AL, d.iA ≠ i) (hS : ∀ (y : Nat) (e : NewD), AL[y]? = some e → e.iS = i → y = x) (hw : Region.waitsFor .any l.toArray i d.iA = true) (m : Nat) (ty : TypeId) (X Y : Operand) (hop : o.op = .store ty X Y) (hX : X = .tmp d.slot)
      (hY : ∀ a : Act, Had l a0 a → (∀ (j s : Nat) (c : Value), depB l i j s = true → VL.getD j none = some c → a.tmps[s]? = some c) → a.eval Y = .agg d.cs) (hg : o.guard = none) (hsz : (P.info? ty).map (·.size) = some m) (hc : d.cs.size = m) (hz : d.z.size = m) (h1 : d.cs.all (·.oneCell') = true)
theorem Mem.far {w0 W W' : World} {M : List (Nat × (Obj → Prop))} {g : Nat} (h : Mem w0 M W) (hg : w0.heap.size ≤ g) (hfar : ∀ y ∈ M, y.1 ≠ g) (hgr : W.grownBy W' (some g)) : Mem w0 M W' := by
  refine ⟨⟨hgr.os.trans h.below.os, hgr.tape.trans h.below.tape, hgr.output.trans h.below.output, Nat.le_trans h.below.size hgr.size, fun k hk => (hgr.block k (Nat.lt_of_lt_of_le hk h.below.size) (fun e => by injection e with e; omega)).trans (h.below.block k hk)⟩, fun x hx => ?_, h.nd⟩
  obtain ⟨h1, ob, h2, h3⟩ := h.has x hx
  exact ⟨h1, ob, (hgr.block _ (lt_of_ob h2) (fun e => hfar x hx (by injection e))).trans h2, h3⟩
def AskAllN (P : Program) (l : List Oper) (a0 : Act) (w0 : World) (M : List (Nat × (Obj → Prop))) (VL : List (Option Value)) (SL : List (Option (List (List UInt8)))) (AL : List NewD) : Nat → List Oper → Prop
  | _, [] => True
  | i, o :: rest => AskN P l a0 w0 M VL SL AL i o ∧ AskAllN P l a0 w0 M VL SL AL (i + 1) rest
theorem AskAllN.at {a0 : Act} {w0 : World} {M : List (Nat × (Obj → Prop))} {VL : List (Option Value)} {SL : List (Option (List (List UInt8)))} {AL : List NewD} : ∀ {r : List Oper} {k : Nat}, AskAllN P l a0 w0 M VL SL AL k r → ∀ i o, r[i]? = some o → AskN P l a0 w0 M VL SL AL (k + i) o
  | [], _, _, i, o, h => by simp at h
  | x :: r, k, h, 0, o, ho => by
    simp only [List.getElem?_cons_zero, Option.some.injEq] at ho
    subst ho
    exact h.1
  | x :: r, k, h, i + 1, o, ho => by
    have := AskAllN.at h.2 i o (by simpa using ho)
    rwa [show k + 1 + i = k + (i + 1) by omega] at this
theorem Mem.put1 {w0 W : World} {M : List (Nat × (Obj → Prop))} {g : Nat} {t : TypeId} {cs : Array Value} (h : Mem w0 M W) (hg : w0.heap.size ≤ g) (hB : Blk W g t cs) (hfar : ∀ y ∈ M, y.1 ≠ g) : Mem w0 ((g, isB t cs) :: M) W := by
  refine ⟨h.below, fun x hx => ?_, List.Pairwise.cons (fun y hy => fun e => hfar y hy e.symm) h.nd⟩
  rcases List.mem_cons.1 hx with rfl | hx
  · exact ⟨hg, _, hB, rfl⟩
  · exact h.has x hx
def holds (a : Act) : List (Nat × Value) → Prop
  | [] => True
  | p :: r => a.tmps[p.1]? = some p.2 ∧ holds a r
theorem holds_lk {a : Act} : ∀ {L : List (Nat × Value)}, holds a L → ∀ s v, lk L s = some v → a.tmps[s]? = some v
  | [], _, s, v, h => by simp [lk] at h
  | p :: r, hs, s, v, h => by
    unfold lk at h
    cases hb : Nat.beq p.1 s with
    | true =>
      simp only [hb, cond_true, Option.some.injEq] at h
      rw [← Nat.eq_of_beq_eq_true hb, ← h]
      exact hs.1
    | false =>
      simp only [hb, cond_false] at h
      exact holds_lk hs.2 s v h
theorem fr_of_holds {a : Act} {n : Nat} {D : List Deferred} {L : List (Nat × Value)} (hs : a.tmps.size = n) (hd : a.defers = D) (h : holds a L) : FrD D a n L := ⟨hs, hd, holds_lk h⟩
theorem far_cons {M : List (Nat × (Obj → Prop))} {g h : Nat} {S : Obj → Prop} (hne : h ≠ g) (hf : ∀ y ∈ M, y.1 ≠ g) : ∀ y ∈ (h, S) :: M, y.1 ≠ g := by
  intro y hy
  rcases List.mem_cons.1 hy with rfl | hy
  · exact hne
  · exact hf y hy
end
end Go.Proofs.YtconhhhggckcbaaDoor
/- Functions that defer a closure; drawn regions that store into elder blocks, whole. No program in sight. -/
namespace Go.Proofs.YtconhhhggckcbaaDoor
open Go.RowKit

section
variable {P : Program} {a : Act} {o : Oper} {w w0 : World} {n s : Nat} {L : List (Nat × Value)} {v : Value} {ops : Array Oper} {rest : List Oper} {Q : Exit → Act → World → Prop} {M : List (Nat × (Obj → Prop))} {x y : Operand} {D : List Deferred}
/-- a closure with no arguments is deferred. -/
abbrev lateF (G : FuncId) (cap : Array Value) : Deferred := { target := .fn (.func G) cap, args := #[] }
theorem run_allocV {ty : TypeId} {V : Value} {cs : Array Value} (ho : o.op = .alloc ty) (hz : (zeroValue ty).run P w = .ok V w) (hV : V.cells = cs) : (execOp a.eval o).run P w = .ok (.value (.pointer (some ⟨w.heap.size, 0, none⟩))) (w.alloc (.cells cs ty)) := by
  subst hV
  unfold execOp
  simp only [ho]
  simp [go_sem, hz]
theorem run_storeAny {W : World} {g : Nat} {t ty : TypeId} {old cs : Array Value} {V : Value} (hV : V.cells = cs) (hB : Blk W g t old) (hi : (P.info? ty).map (·.size) = some cs.size) (ho : old.size = cs.size) (h1 : cs.all (·.oneCell') = true) : (storeVar ty ⟨g, 0, none⟩ V).run P W = .ok () (W.setRow g cs) := by
  have h := run_storeVar_row (P := P) W g t ty old cs hB hi ho h1
  have e : storeVar ty ⟨g, 0, none⟩ V = storeVar ty ⟨g, 0, none⟩ (.agg cs) := by
    unfold storeVar
    rw [hV]
    rfl
  rw [e]; exact h
/-- a value is stored that fills a block. -/
theorem sqStoreV {ty t : TypeId} {i g m : Nat} {cs old : Array Value} {V : Value} (hF : FrD D a n L) (hM : Mem w0 M w) (hgd : o.guard = none) (ho : o.op = .store ty x y) (hd : o.dst = none) (hx : a.eval x = .pointer (some ⟨g, 0, none⟩)) (hy : a.eval y = V) (hV : V.cells = cs)
    (e : M[i]? = some (g, isB t old)) (hi : (P.info? ty).map (·.size) = some m) (hm : cs.size = m) (hold : old.size = m) (h1 : cs.all (·.oneCell') = true)
    (h : ∀ a2 w2, w.grownBy w2 (some g) → FrD D a2 n L → Mem w0 (M.set i (g, isB t cs)) w2 → wpList P ops Q rest a2 w2) : wpList P ops Q (o :: rest) a w := by
  have hB := hM.at i e
  have hr := run_storeAny (P := P) (ty := ty) hV hB (by rw [hm]; exact hi) (by omega) h1
  refine sqN hF (wantedS hgd) (w2 := w.setRow g cs) ?_ hd fun a2 hF2 => h a2 _ (grown_setRow w g cs) hF2 (hM.row i e cs)
  unfold execOp
  simp only [ho, hx, hy]
  simp [Instr.storeAt, Instr.sureAddr, hr]
end
section
variable {P : Program} {l : List Oper}
/-- a block that operation iS fills. -/
structure PutD where
  iS : Nat
  g : Nat
  t : TypeId
  old : Array Value
  new : Array Value
structure PutI (l : List Oper) (n : Nat) (a0 : Act) (w0 : World) (M : List (Nat × (Obj → Prop))) (VL : List (Option Value)) (BL : List PutD) (L : Nat → Bool) (a : Act) (W : World) : Prop where
  size : a.tmps.size = n
  defers : a.defers = a0.defers
  had : Had l a0 a
  val : ∀ (i : Nat) (o : Oper) (s : Nat) (c : Value), l[i]? = some o → o.dst = some s → L i = true → VL.getD i none = some c → a.tmps[s]? = some c
  closed : ∀ b ∈ BL, L b.iS = true → ∀ j, Region.waitsFor .any l.toArray b.iS j = true → L j = true
  mem : Mem w0 M W
  blk : ∀ b ∈ BL, Blk W b.g b.t (cond (L b.iS) b.new b.old)
inductive AskP (P : Program) (l : List Oper) (a0 : Act) (w0 : World) (M : List (Nat × (Obj → Prop))) (VL : List (Option Value)) (BL : List PutD) (i : Nat) (o : Oper) : Prop
  | val (s : Nat) (c : Value) (hs : o.dst = some s) (hc : VL.getD i none = some c) (hA : ∀ b ∈ BL, b.iS ≠ i)
      (h : ∀ (a : Act) (W : World), Mem w0 M W → Had l a0 a → (∀ (j s : Nat) (c : Value), depB l i j s = true → VL.getD j none = some c → a.tmps[s]? = some c) → (∀ b ∈ BL, Region.waitsFor .any l.toArray b.iS i = true → Blk W b.g b.t b.old) →
        Region.wanted o (yielded l.toArray a.tmps) = true ∧ GivesT P (Below W.heap.size W) (fun v _ => v = c) ((execOp a.eval o).run P W))
  | put (b : PutD) (hb : b ∈ BL) (hi : b.iS = i) (hs : o.dst = none) (hS : ∀ e ∈ BL, e.iS = i → e = b) (m : Nat) (ty : TypeId) (X Y : Operand) (V : Value) (hop : o.op = .store ty X Y) (hX : ∀ a : Act, Had l a0 a → a.eval X = .pointer (some ⟨b.g, 0, none⟩))
      (hY : ∀ a : Act, Had l a0 a → (∀ (j s : Nat) (c : Value), depB l i j s = true → VL.getD j none = some c → a.tmps[s]? = some c) → a.eval Y = V) (hV : V.cells = b.new) (hg : o.guard = none) (hsz : (P.info? ty).map (·.size) = some m) (hc : b.new.size = m) (hz : b.old.size = m) (h1 : b.new.all (·.oneCell') = true)
def AskAllP (P : Program) (l : List Oper) (a0 : Act) (w0 : World) (M : List (Nat × (Obj → Prop))) (VL : List (Option Value)) (BL : List PutD) : Nat → List Oper → Prop
  | _, [] => True
  | i, o :: rest => AskP P l a0 w0 M VL BL i o ∧ AskAllP P l a0 w0 M VL BL (i + 1) rest
theorem AskAllP.at {a0 : Act} {w0 : World} {M : List (Nat × (Obj → Prop))} {VL : List (Option Value)} {BL : List PutD} : ∀ {r : List Oper} {k : Nat}, AskAllP P l a0 w0 M VL BL k r → ∀ i o, r[i]? = some o → AskP P l a0 w0 M VL BL (k + i) o
  | [], _, _, i, o, h => by simp at h
  | x :: r, k, h, 0, o, ho => by
    simp only [List.getElem?_cons_zero, Option.some.injEq] at ho
    subst ho
    exact h.1
  | x :: r, k, h, i + 1, o, ho => by
    have := AskAllP.at h.2 i o (by simpa using ho)
    rwa [show k + 1 + i = k + (i + 1) by omega] at this
end
end Go.Proofs.YtconhhhggckcbaaDoor
