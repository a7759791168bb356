/- Drawn regions that make memory and write whole result cells (rows rs of the call's own), operation by operation. -/
import Derived.Test.YtilbebjjmnncdaaDoorAsk
import Derived.Test.YtilbebjjmnncdaaDoorFrame
namespace Go.Proofs.YtilbebjjmnncdaaDoor
open Go.RowKit

/-- all old blocks but the rows rs are as they were; the rows hold m cells of type t. -/
structure Alm (w : World) (rs : List (Nat × TypeId × Nat)) (W : World) : Prop where
  os : W.os = w.os
  tape : W.tape = w.tape
  output : W.output = w.output
  size : w.heap.size ≤ W.heap.size
  old : ∀ b, b < w.heap.size → (∀ x ∈ rs, x.1 ≠ b) → W.heap[b]? = w.heap[b]?
  row : ∀ x ∈ rs, x.1 < w.heap.size ∧ ∃ cs, Blk W x.1 x.2.1 cs ∧ cs.size = x.2.2
theorem Alm.below {w W W' : World} {rs : List (Nat × TypeId × Nat)} (h : Alm w rs W) (hb : Below W.heap.size W W') : Alm w rs W' :=
  ⟨hb.os.trans h.os, hb.tape.trans h.tape, hb.output.trans h.output, Nat.le_trans h.size hb.size, fun b h1 h2 => (hb.block b (Nat.lt_of_lt_of_le h1 h.size)).trans (h.old b h1 h2), fun x hx => by
    obtain ⟨h1, cs, h2, h3⟩ := h.row x hx
    exact ⟨h1, cs, h2.below hb h2.lt, h3⟩⟩
theorem Alm.put {w W : World} {rs : List (Nat × TypeId × Nat)} (h : Alm w rs W) {r m : Nat} {t : TypeId} (hr : (r, t, m) ∈ rs) (hu : ∀ x ∈ rs, x.1 = r → x = (r, t, m)) (cs : Array Value) (hc : cs.size = m) : Alm w rs (W.setRow r cs) :=
  ⟨h.os, h.tape, h.output, by rw [setRow_size]; exact h.size, fun b h1 h2 => (setRow_other W r b cs (fun e => h2 _ hr e.symm)).trans (h.old b h1 h2), fun x hx => by
    obtain ⟨h1, cs', h2, h3⟩ := h.row x hx
    by_cases e : x.1 = r
    · have := hu x hx e
      subst this
      exact ⟨h1, cs, h2.row cs, hc⟩
    · exact ⟨h1, cs', h2.rowFar e cs, h3⟩⟩
theorem Alm.blk {w W : World} {rs : List (Nat × TypeId × Nat)} (h : Alm w rs W) {g : Nat} {t : TypeId} {cs : Array Value} (hB : Blk w g t cs) (hg : (rs.all fun x => x.1 != g) = true) : Blk W g t cs :=
  (h.old g hB.lt (fun x hx => by have := List.all_eq_true.1 hg x hx; simpa using this)).trans hB

/-- what is known of a value (row = none), or of a result cell (row = some r); it stays known while memory grows and other rows are written. -/
structure Kr (base : Nat) where
  p : Value → World → Prop
  row : Option Nat
  st : ∀ v W W', Below W.heap.size W W' → p v W → p v W'
  sr : ∀ v W r cs, r < base → row ≠ some r → p v W → p v (W.setRow r cs)
def krval {base : Nat} (c : Value) : Kr base := ⟨fun v _ => v = c, none, fun _ _ _ _ h => h, fun _ _ _ _ _ _ h => h⟩
/-- a slice of texts that lies in new memory. -/
def StrsN (base : Nat) (W : World) (v : Value) (l : List (List UInt8)) : Prop := Strs W v l ∧ ∀ a n c, v = .slice (some a) n c → base ≤ a.block
def krstrs {base : Nat} (l : List (List UInt8)) : Kr base := ⟨fun v W => StrsN base W v l, none, fun _ _ _ hb h => ⟨h.1.below hb, h.2⟩, fun v W r cs hr _ h => by
  refine ⟨?_, h.2⟩
  rcases h.1 with h1 | ⟨b, o, c, h1, h2, h3⟩
  · exact .inl h1
  · have := h.2 _ _ _ h1
    refine .inr ⟨b, o, c, h1, by rw [setRow_size]; exact h2, fun i hi => ?_⟩
    rw [← h3 i hi]
    unfold World.cell?
    simp only [setRow_other W r b cs (by simp only at this; omega)]⟩
def krblk {base : Nat} (r : Nat) (t : TypeId) (cs : Array Value) : Kr base := ⟨fun _ W => Blk W r t cs, some r, fun _ _ _ hb h => h.below hb h.lt, fun _ _ r' _ _ hne h => h.rowFar (fun e => hne (by rw [e])) _⟩
def krany {base : Nat} : Kr base := ⟨fun _ _ => True, none, fun _ _ _ _ _ => trivial, fun _ _ _ _ _ _ _ => trivial⟩
def rT {base : Nat} (KL : List (Kr base)) (i : Nat) : Value → World → Prop := (KL.getD i krany).p
/-- how an operation turns the world. -/
def rR {base : Nat} (KL : List (Kr base)) (rs : List (Nat × TypeId × Nat)) (i : Nat) (W W' : World) : Prop :=
  match (KL.getD i krany).row with
  | none => Below W.heap.size W W'
  | some r => ∃ t m cs, (r, t, m) ∈ rs ∧ cs.size = m ∧ W' = W.setRow r cs

section
variable {P : Program} {l : List Oper}
def AskAllR (P : Program) (l : List Oper) (a0 : Act) (w : World) (rs : List (Nat × TypeId × Nat)) (KL : List (Kr w.heap.size)) : Nat → List Oper → Prop
  | _, [] => True
  | i, o :: rest => Asks P l a0 (Alm w rs) (rT KL) (rR KL rs) i o ∧ AskAllR P l a0 w rs KL (i + 1) rest
theorem AskAllR.at {a0 : Act} {w : World} {rs : List (Nat × TypeId × Nat)} {KL : List (Kr w.heap.size)} : ∀ {r : List Oper} {k : Nat}, AskAllR P l a0 w rs KL k r → ∀ i o, r[i]? = some o → Asks P l a0 (Alm w rs) (rT KL) (rR KL rs) (k + i) o
  | [], _, _, i, o, h => by simp at h
  | x :: r, k, h, 0, o, ho => by
    simp only [List.getElem?_cons_zero, Option.some.injEq] at ho
    subst ho
    exact h.1
  | x :: r, k, h, i + 1, o, ho => by
    have := AskAllR.at h.2 i o (by simpa using ho)
    rwa [show k + 1 + i = k + (i + 1) by omega] at this
/-- no two operations write one row. -/
def rowsApart {base : Nat} (KL : List (Kr base)) : Prop := ∀ i j r, (KL.getD i krany).row = some r → (KL.getD j krany).row = some r → j = i

theorem wp_region_kr {id : Nat} {Q : Exit → Act → World → Prop} {a0 : Act} {w : World} (n : Nat) (rs : List (Nat × TypeId × Nat)) (hm : P.follows .mixedOrders = true) (hB : looseB l n = true) (hn : a0.tmps.size = n) (KL : List (Kr w.heap.size))
    (hrs : ∀ x ∈ rs, ∀ y ∈ rs, x.1 = y.1 → x = y) (hS : Alm w rs w) (hap : rowsApart KL) (hdn : ∀ i o, l[i]? = some o → o.dst = none → ∀ v W, rT KL i v W → rT KL i undef W)
    (hop : AskAllR P l a0 w rs KL 0 l) (hend : ∀ a W, Alm w rs W → Known l a0 (rT KL) (fun _ => true) a W → Q .normal a W) : (Code.region id l.toArray true).wp P Q a0 w := by
  refine wp_region_loose n hm hB hn (Alm w rs) (rT KL) (rR KL rs) (hS.below (Below.refl _ _).drew) (fun i W W' h1 h2 => ?_) (fun i j v W W' hne h1 h2 hT => ?_) hdn (fun i o ho => ?_) hend
  · unfold rR at h2
    split at h2
    · exact h1.below h2
    · obtain ⟨t, m, cs, hr, hc, rfl⟩ := h2
      exact h1.put hr (fun x hx e => hrs x hx _ hr e) cs hc
  · unfold rR at h2
    split at h2
    · exact (KL.getD j krany).st v W W' h2 hT
    · rename_i r hr
      obtain ⟨t, m, cs, hr', hc, rfl⟩ := h2
      exact (KL.getD j krany).sr v W r cs (h1.row _ hr').1 (fun e => hne (hap i j r hr e)) hT
  · have := AskAllR.at hop i o ho
    rwa [Nat.zero_add] at this

section
variable {a0 : Act} {w : World} {rs : List (Nat × TypeId × Nat)} {KL : List (Kr w.heap.size)} {i : Nat} {o : Oper} {W : World} {a : Act}
abbrev DepR {base : Nat} (l : List Oper) (KL : List (Kr base)) (i : Nat) (a : Act) (W : World) : Prop := ∀ j, Region.waitsFor .any l.toArray i j = true → ∀ oj s, l[j]? = some oj → oj.dst = some s → ∃ v, a.tmps[s]? = some v ∧ rT KL j v W
theorem asksr_mk (h : ∀ (a : Act) (W : World), Alm w rs W → Had l a0 a → DepR l KL i a W → Region.wanted o (yielded l.toArray a.tmps) = true ∧ GivesT P (rR KL rs i W) (rT KL i) ((execOp a.eval o).run P W)) : Asks P l a0 (Alm w rs) (rT KL) (rR KL rs) i o :=
  fun a W hS h1 h2 _ => .inl (h a W hS h1 h2)
theorem asksr_skip (h : ∀ (a : Act) (W : World), Alm w rs W → Had l a0 a → DepR l KL i a W → Region.wanted o (yielded l.toArray a.tmps) = false ∧ rT KL i undef W) : Asks P l a0 (Alm w rs) (rT KL) (rR KL rs) i o :=
  fun a W hS h1 h2 _ => .inr (h a W hS h1 h2)
theorem DepR.get {j s : Nat} (h : DepR l KL i a W) (hb : depB l i j s = true) : ∃ v, a.tmps[s]? = some v ∧ rT KL j v W := by
  simp only [depB, Bool.and_eq_true] at hb
  obtain ⟨h1, h2⟩ := hb
  cases hj : l[j]? with
  | none => rw [hj] at h2; cases h2
  | some oj =>
    rw [hj] at h2
    exact h j h1 oj s hj (by simpa using h2)
theorem DepR.val {j s : Nat} {c : Value} (h : DepR l KL i a W) (hb : depB l i j s = true) (hk : KL.getD j krany = krval c) : a.tmps[s]? = some c := by
  obtain ⟨v, h1, h2⟩ := h.get hb
  unfold rT at h2; rw [hk] at h2
  rw [h1]; exact congrArg some h2
theorem DepR.strs {j s : Nat} {L : List (List UInt8)} (h : DepR l KL i a W) (hb : depB l i j s = true) (hk : KL.getD j krany = krstrs L) : ∃ v, a.tmps[s]? = some v ∧ Strs W v L := by
  obtain ⟨v, h1, h2⟩ := h.get hb
  unfold rT at h2; rw [hk] at h2
  exact ⟨v, h1, h2.1⟩
theorem Known.rval {s : Nat} {c : Value} (h : Known l a0 (rT KL) (fun _ => true) a W) (hb : (match l[i]? with | some oj => oj.dst == some s | none => false) = true) (hk : KL.getD i krany = krval c) : a.tmps[s]? = some c := by
  cases hj : l[i]? with
  | none => rw [hj] at hb; cases hb
  | some oj =>
    rw [hj] at hb
    obtain ⟨v, h1, h2⟩ := h.new i oj s hj rfl (by simpa using hb)
    unfold rT at h2; rw [hk] at h2
    rw [h1]; exact congrArg some h2
theorem Known.rstrs {s : Nat} {L : List (List UInt8)} (h : Known l a0 (rT KL) (fun _ => true) a W) (hb : (match l[i]? with | some oj => oj.dst == some s | none => false) = true) (hk : KL.getD i krany = krstrs L) : ∃ v, a.tmps[s]? = some v ∧ Strs W v L := by
  cases hj : l[i]? with
  | none => rw [hj] at hb; cases hb
  | some oj =>
    rw [hj] at hb
    obtain ⟨v, h1, h2⟩ := h.new i oj s hj rfl (by simpa using hb)
    unfold rT at h2; rw [hk] at h2
    exact ⟨v, h1, h2.1⟩
theorem Known.rblk {r : Nat} {t : TypeId} {cs : Array Value} (h : Known l a0 (rT KL) (fun _ => true) a W) (hb : (match l[i]? with | some oj => oj.dst == none | none => false) = true) (hk : KL.getD i krany = krblk r t cs) : Blk W r t cs := by
  cases hj : l[i]? with
  | none => rw [hj] at hb; cases hb
  | some oj =>
    rw [hj] at hb
    have h2 := h.mem i oj hj rfl (by simpa using hb)
    unfold rT at h2; rw [hk] at h2
    exact h2
theorem rR_none (hk : (KL.getD i krany).row = none) : rR KL rs i W = Below W.heap.size W := by
  funext W'; unfold rR; rw [hk]
theorem givr_val {c x : Value} (h : (execOp a.eval o).run P W = .ok (.value x) W) (hk : KL.getD i krany = krval c) (hx : x = c) : GivesT P (rR KL rs i W) (rT KL i) ((execOp a.eval o).run P W) := by
  rw [h, rR_none (by rw [hk]; rfl)]
  refine ⟨Below.refl _ _, ?_⟩
  unfold rT; rw [hk]; exact hx
theorem givr_move {c : Value} {x : Operand} (ho : o.op = .move x) (hx : a.eval x = c) (hk : KL.getD i krany = krval c) : GivesT P (rR KL rs i W) (rT KL i) ((execOp a.eval o).run P W) :=
  givr_val (x := c) (by simp [execOp, ho, hx]) hk rfl
theorem givr_assign {c : Value} {x : Operand} (ho : o.op = .assign x) (hx : a.eval x = c) (hk : KL.getD i krany = krval c) : GivesT P (rR KL rs i W) (rT KL i) ((execOp a.eval o).run P W) :=
  givr_val (x := c) (by simp [execOp, ho, hx]) hk rfl
theorem givr_loadB (hS : Alm w rs W) (ty : TypeId) (x : Operand) (ho : o.op = .load ty x) (g : Nat) (hx : a.eval x = .pointer (some ⟨g, 0, none⟩)) {t : TypeId} {cs : Array Value} (hB : Blk w g t cs) (hg : (rs.all fun x => x.1 != g) = true)
    {d : TypeDesc} (hu : P.underlying ty = some d) (hd : (match d with | .struct _ | .array _ _ => true | _ => false) = true) {m : Nat} (hi : (P.info? ty).map (·.size) = some m) (hm : cs.size = m) (hk : KL.getD i krany = krval (.agg cs)) :
    GivesT P (rR KL rs i W) (rT KL i) ((execOp a.eval o).run P W) := by
  refine givr_val (x := .agg cs) ?_ hk rfl
  unfold execOp
  simp only [ho, hx, Instr.loadAt, Instr.sureAddr, Sem.run_bind, Sem.run_pure, Result.andThen_ok, run_loadVar_row W g t ty cs (0, 0) d (hS.blk hB hg) hu hd (by rw [hm]; exact hi)]
theorem givr_eql (t t2 : TypeId) (x y : Operand) (ho : o.op = .binOp .eql t x y t2) {xs ys : Array Value} (hx : a.eval x = .agg xs) (hy : a.eval y = .agg ys) (hg : P.eqGuardType P.depth t = false)
    {b : Bool} (hE : ∀ w, (Op.equalIn 10000 t (.agg xs) (.agg ys)).run P w = .ok b w) (hk : KL.getD i krany = krval (.bool b)) : GivesT P (rR KL rs i W) (rT KL i) ((execOp a.eval o).run P W) := by
  refine givr_val (x := .bool b) ?_ hk rfl
  unfold execOp
  simp only [ho, hx, hy, Sem.run_bind, run_eqGuard_agg W _ _ _ _ _ _ hg, Result.andThen_ok, run_eql_struct, hE, Sem.run_pure]
theorem givr_call {f : FuncId} {args : Array Value} {c : Value} (hrun : (execOp a.eval o).run P W = .ok (.enter f args) W) (hc : Calls P f args W fun e w' => e = .returned c ∧ Below W.heap.size W w') (hk : KL.getD i krany = krval c) :
    GivesT P (rR KL rs i W) (rT KL i) ((execOp a.eval o).run P W) := by
  rw [hrun, rR_none (by rw [hk]; rfl)]
  refine hc.mono fun e w' h => ⟨c, h.1, h.2, ?_⟩
  unfold rT; rw [hk]; rfl
theorem givr_strs (hS : Alm w rs W) (L : List (List UInt8)) (t : TypeId) (hrun : (execOp a.eval o).run P W = .ok (.value (.slice (some ⟨W.heap.size, 0, none⟩) L.length L.length)) (W.alloc (.cells (L.map tx).toArray t)))
    (hk : KL.getD i krany = krstrs L) : GivesT P (rR KL rs i W) (rT KL i) ((execOp a.eval o).run P W) := by
  rw [hrun, rR_none (by rw [hk]; rfl)]
  refine ⟨(Below.refl _ _).alloc (Nat.le_refl _) _, ?_⟩
  unfold rT; rw [hk]
  refine ⟨Strs.new W L t L.length _ rfl, fun a n c e => ?_⟩
  injection e with e1 _ _
  injection e1 with e1
  rw [← e1]
  exact hS.size
theorem givr_store (hS : Alm w rs W) (ty : TypeId) (x y : Operand) (ho : o.op = .store ty x y) (r m : Nat) (t : TypeId) (cells : Array Value) (hx : a.eval x = .pointer (some ⟨r, 0, none⟩)) (hy : a.eval y = .agg cells) (hr : (r, t, m) ∈ rs)
    (hi : (P.info? ty).map (·.size) = some m) (hm : cells.size = m) (h1 : cells.all (·.oneCell') = true) (hk : KL.getD i krany = krblk r t cells) : GivesT P (rR KL rs i W) (rT KL i) ((execOp a.eval o).run P W) := by
  obtain ⟨_, old, hB, hsz⟩ := hS.row _ hr
  have hrun : (execOp a.eval o).run P W = .ok .skip (W.setRow r cells) := by
    unfold execOp
    simp only [ho, hx, hy]
    have := run_storeVar_row (P := P) W r t ty old cells hB (by rw [hm]; exact hi) (by simp only at hsz; omega) h1
    simp [Instr.storeAt, Instr.sureAddr, this]
  rw [hrun]
  refine ⟨?_, ?_⟩
  · unfold rR; rw [hk]; exact ⟨t, m, cells, hr, hm, rfl⟩
  · unfold rT; rw [hk]; exact hB.row _
end
end
end Go.Proofs.YtilbebjjmnncdaaDoor
