/- Drawn regions that only make memory, operation by operation: what each leaves is a value, or a slice of texts. -/
import Derived.Test.YtilbebjjmnncdaaDoorLoose
import Derived.Test.YtilbebjjmnncdaaDoorGive
import Derived.Test.YtilbebjjmnncdaaDoorStrs
namespace Go.Proofs.YtilbebjjmnncdaaDoor
open Go.RowKit

/-- what is known of a value; it stays known while memory grows. -/
structure Kd where
  p : Value → World → Prop
  st : ∀ v W W', Below W.heap.size W W' → p v W → p v W'
def kval (c : Value) : Kd := ⟨fun v _ => v = c, fun _ _ _ _ h => h⟩
def kstrs (l : List (List UInt8)) : Kd := ⟨fun v W => Strs W v l, fun _ _ _ hb h => h.below hb⟩
def kany : Kd := ⟨fun _ _ => True, fun _ _ _ _ _ => trivial⟩
def kT (KL : List Kd) (i : Nat) : Value → World → Prop := (KL.getD i kany).p

section
variable {P : Program} {l : List Oper}
abbrev grows (_ : Nat) (W W' : World) : Prop := Below W.heap.size W W'
/-- each operation, in the text's order. -/
def AskAll (P : Program) (l : List Oper) (a0 : Act) (w : World) (KL : List Kd) : Nat → List Oper → Prop
  | _, [] => True
  | i, o :: rest => Asks P l a0 (Below w.heap.size w) (kT KL) grows i o ∧ AskAll P l a0 w KL (i + 1) rest
theorem AskAll.at {a0 : Act} {w : World} {KL : List Kd} : ∀ {r : List Oper} {k : Nat}, AskAll P l a0 w KL k r → ∀ i o, r[i]? = some o → Asks P l a0 (Below w.heap.size w) (kT KL) grows (k + i) o
  | [], _, _, i, o, h => by simp at h
  | x :: r, k, h, 0, o, ho => by
    simp only [List.getElem?_cons_zero, Option.some.injEq] at ho
    subst ho
    exact h.1
  | x :: r, k, h, i + 1, o, ho => by
    have := AskAll.at h.2 i o (by simpa using ho)
    rwa [show k + 1 + i = k + (i + 1) by omega] at this

theorem wp_region_kd {id : Nat} {Q : Exit → Act → World → Prop} {a0 : Act} {w : World} (n : Nat) (hm : P.follows .mixedOrders = true) (hB : looseB l n = true) (hd : (l.all fun o => o.dst.isSome) = true) (hn : a0.tmps.size = n) (KL : List Kd)
    (hop : AskAll P l a0 w KL 0 l) (hend : ∀ a W, Below w.heap.size w W → Known l a0 (kT KL) (fun _ => true) a W → Q .normal a W) : (Code.region id l.toArray true).wp P Q a0 w := by
  refine wp_region_loose n hm hB hn (Below w.heap.size w) (kT KL) grows (Below.refl _ _).drew (fun _ W W' h1 h2 => h1.trans (h2.mono h1.size)) (fun _ j v W W' _ _ hR hT => (KL.getD j kany).st v W W' hR hT) (fun i o ho hn => ?_) (fun i o ho => ?_) hend
  · have := List.all_eq_true.1 hd o (List.mem_of_getElem? ho)
    rw [hn] at this; cases this
  · have := AskAll.at hop i o ho
    rwa [Nat.zero_add] at this

section
variable {a0 : Act} {w : World} {KL : List Kd} {i : Nat} {o : Oper}
/-- the facts that an operation may use. -/
abbrev Had (l : List Oper) (a0 a : Act) : Prop := ∀ s v, noDst l s = true → a0.tmps[s]? = some v → a.tmps[s]? = some v
abbrev Dep (l : List Oper) (KL : List Kd) (i : Nat) (a : Act) (W : World) : Prop := ∀ j, Region.waitsFor .any l.toArray i j = true → ∀ oj s, l[j]? = some oj → oj.dst = some s → ∃ v, a.tmps[s]? = some v ∧ kT KL j v W
theorem asks_mk (h : ∀ (a : Act) (W : World), Below w.heap.size w W → Had l a0 a → Dep l KL i a W → Region.wanted o (yielded l.toArray a.tmps) = true ∧ GivesT P (grows i W) (kT KL i) ((execOp a.eval o).run P W)) : Asks P l a0 (Below w.heap.size w) (kT KL) grows i o :=
  fun a W hS h1 h2 _ => .inl (h a W hS h1 h2)
theorem asks_skip (h : ∀ (a : Act) (W : World), Below w.heap.size w W → Had l a0 a → Dep l KL i a W → Region.wanted o (yielded l.toArray a.tmps) = false ∧ kT KL i undef W) : Asks P l a0 (Below w.heap.size w) (kT KL) grows i o :=
  fun a W hS h1 h2 _ => .inr (h a W hS h1 h2)
theorem eval_tmp {a : Act} {s : Nat} {v : Value} (h : a.tmps[s]? = some v) : a.eval (.tmp s) = v := by simp [Act.eval, h]
theorem wanted_yes {a : Act} (hg : o.guard = none) : Region.wanted o (yielded l.toArray a.tmps) = true := by simp [Region.wanted, hg]
theorem wanted_at {a : Act} {j s : Nat} {want b : Bool} {oj : Oper} (hg : o.guard = some (j, want)) (hj : l[j]? = some oj) (hs : oj.dst = some s) (he : a.tmps[s]? = some (.bool b)) : Region.wanted o (yielded l.toArray a.tmps) = (b == want) := by
  simp [Region.wanted, hg, yielded, hj, hs, he]
variable {W : World} {a : Act}
def depB (l : List Oper) (i j s : Nat) : Bool := Region.waitsFor .any l.toArray i j && (match l[j]? with | some oj => oj.dst == some s | none => false)
theorem Dep.get {j s : Nat} (h : Dep l KL i a W) (hb : depB l i j s = true) : ∃ v, a.tmps[s]? = some v ∧ kT KL j v W := by
  simp only [depB, Bool.and_eq_true] at hb
  obtain ⟨h1, h2⟩ := hb
  cases hj : l[j]? with
  | none => rw [hj] at h2; cases h2
  | some oj =>
    rw [hj] at h2
    exact h j h1 oj s hj (by simpa using h2)
theorem Dep.val {j s : Nat} {c : Value} (h : Dep l KL i a W) (hb : depB l i j s = true) (hk : KL.getD j kany = kval c) : a.tmps[s]? = some c := by
  obtain ⟨v, h1, h2⟩ := h.get hb
  unfold kT at h2; rw [hk] at h2
  rw [h1]; exact congrArg some h2
theorem Dep.strs {j s : Nat} {L : List (List UInt8)} (h : Dep l KL i a W) (hb : depB l i j s = true) (hk : KL.getD j kany = kstrs L) : ∃ v, a.tmps[s]? = some v ∧ Strs W v L := by
  obtain ⟨v, h1, h2⟩ := h.get hb
  unfold kT at h2; rw [hk] at h2
  exact ⟨v, h1, h2⟩
def guardB (l : List Oper) (o : Oper) (j s : Nat) (want : Bool) : Bool := o.guard == some (j, want) && (match l[j]? with | some oj => oj.dst == some s | none => false)
theorem wanted_of {j s : Nat} {want : Bool} (hb : guardB l o j s want = true) (he : a.tmps[s]? = some (.bool want)) : Region.wanted o (yielded l.toArray a.tmps) = true := by
  simp only [guardB, Bool.and_eq_true, beq_iff_eq] at hb
  obtain ⟨h1, h2⟩ := hb
  cases hj : l[j]? with
  | none => rw [hj] at h2; cases h2
  | some oj =>
    rw [hj] at h2
    rw [wanted_at h1 hj (by simpa using h2) he]
    simp
theorem unwanted_of {j s : Nat} {want : Bool} (hb : guardB l o j s want = true) (he : a.tmps[s]? = some (.bool (!want))) : Region.wanted o (yielded l.toArray a.tmps) = false := by
  simp only [guardB, Bool.and_eq_true, beq_iff_eq] at hb
  obtain ⟨h1, h2⟩ := hb
  cases hj : l[j]? with
  | none => rw [hj] at h2; cases h2
  | some oj =>
    rw [hj] at h2
    rw [wanted_at h1 hj (by simpa using h2) he]
    simp
theorem Known.val {s : Nat} {c : Value} (h : Known l a0 (kT KL) (fun _ => true) a W) (hb : (match l[i]? with | some oj => oj.dst == some s | none => false) = true) (hk : KL.getD i kany = kval c) : a.tmps[s]? = some c := by
  cases hj : l[i]? with
  | none => rw [hj] at hb; cases hb
  | some oj =>
    rw [hj] at hb
    obtain ⟨v, h1, h2⟩ := h.new i oj s hj rfl (by simpa using hb)
    unfold kT at h2; rw [hk] at h2
    rw [h1]; exact congrArg some h2
theorem giv_val {c : Value} {x : Value} (h : (execOp a.eval o).run P W = .ok (.value x) W) (hk : KL.getD i kany = kval c) (hx : x = c) : GivesT P (grows i W) (kT KL i) ((execOp a.eval o).run P W) := by
  rw [h]
  refine ⟨Below.refl _ _, ?_⟩
  unfold kT; rw [hk]; exact hx
theorem giv_move {c : Value} {x : Operand} (ho : o.op = .move x) (hx : a.eval x = c) (hk : KL.getD i kany = kval c) : GivesT P (grows i W) (kT KL i) ((execOp a.eval o).run P W) :=
  giv_val (x := c) (by simp [execOp, ho, hx]) hk rfl
theorem giv_assign {c : Value} {x : Operand} (ho : o.op = .assign x) (hx : a.eval x = c) (hk : KL.getD i kany = kval c) : GivesT P (grows i W) (kT KL i) ((execOp a.eval o).run P W) :=
  giv_val (x := c) (by simp [execOp, ho, hx]) hk rfl
theorem giv_loadB (hS : Below w.heap.size w W) (ty : TypeId) (x : Operand) (ho : o.op = .load ty x) (g : Nat) (hx : a.eval x = .pointer (some ⟨g, 0, none⟩)) {t : TypeId} {cs : Array Value} (hB : Blk w g t cs)
    {d : TypeDesc} (hu : P.underlying ty = some d) (hd : (match d with | .struct _ | .array _ _ => true | _ => false) = true) {m : Nat} (hi : (P.info? ty).map (·.size) = some m) (hm : cs.size = m) (hk : KL.getD i kany = kval (.agg cs)) :
    GivesT P (grows i W) (kT KL i) ((execOp a.eval o).run P W) := by
  refine giv_val (x := .agg cs) ?_ hk rfl
  unfold execOp
  simp only [ho, hx, Instr.loadAt, Instr.sureAddr, Sem.run_bind, Sem.run_pure, Result.andThen_ok, run_loadVar_row W g t ty cs (0, 0) d (hB.below hS hB.lt) hu hd (by rw [hm]; exact hi)]
theorem giv_eql (t t2 : TypeId) (x y : Operand) (ho : o.op = .binOp .eql t x y t2) {xs ys : Array Value} (hx : a.eval x = .agg xs) (hy : a.eval y = .agg ys) (hg : P.eqGuardType P.depth t = false)
    {b : Bool} (hE : ∀ w, (Op.equalIn 10000 t (.agg xs) (.agg ys)).run P w = .ok b w) (hk : KL.getD i kany = kval (.bool b)) : GivesT P (grows i W) (kT KL i) ((execOp a.eval o).run P W) := by
  refine giv_val (x := .bool b) ?_ hk rfl
  unfold execOp
  simp only [ho, hx, hy, Sem.run_bind, run_eqGuard_agg W _ _ _ _ _ _ hg, Result.andThen_ok, run_eql_struct, hE, Sem.run_pure]
theorem giv_call {f : FuncId} {args : Array Value} {c : Value} (hrun : (execOp a.eval o).run P W = .ok (.enter f args) W) (hc : Calls P f args W fun e w' => e = .returned c ∧ Below W.heap.size W w') (hk : KL.getD i kany = kval c) :
    GivesT P (grows i W) (kT KL i) ((execOp a.eval o).run P W) := by
  rw [hrun]
  refine hc.mono fun e w' h => ⟨c, h.1, h.2, ?_⟩
  unfold kT; rw [hk]; rfl
end
end
/-- '[]string{..}' as a call's last arguments. -/
theorem giv_strs {P : Program} {KL : List Kd} {i : Nat} {o : Oper} {W : World} {a : Act} (L : List (List UInt8)) (t : TypeId) (hrun : (execOp a.eval o).run P W = .ok (.value (.slice (some ⟨W.heap.size, 0, none⟩) L.length L.length)) (W.alloc (.cells (L.map tx).toArray t)))
    (hk : KL.getD i kany = kstrs L) : GivesT P (grows i W) (kT KL i) ((execOp a.eval o).run P W) := by
  rw [hrun]
  refine ⟨(Below.refl _ _).alloc (Nat.le_refl _) _, ?_⟩
  unfold kT; rw [hk]
  exact Strs.new W L t L.length _ rfl
end Go.Proofs.YtilbebjjmnncdaaDoor
