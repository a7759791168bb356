/- Ranges over functions, in walks over frames of which single slots are known. No program in sight. -/
import Derived.RangeFuncLeaves
import Derived.RangeFuncOwn
import Derived.RangeFuncCalls
import Derived.Test.YtconhhhggckcbaaDoorOpsB
namespace Go.Proofs.YtconhhhggckcbaaDoor
open Go.RowKit
variable {D : List Deferred}

section
variable {P : Program} {a : Act} {o : Oper} {w w0 : World} {n s m : Nat} {L : List (Nat × Value)} {v : Value} {ops : Array Oper} {rest : List Oper} {Q : Exit → Act → World → Prop} {M : List (Nat × (Obj → Prop))} {x : Operand}

/-- a block that is just this. -/
def isO (x : Obj) : Obj → Prop := fun ob => ob = x
theorem Mem.obj (h : Mem w0 M w) (i : Nat) {g : Nat} {x : Obj} (e : M[i]? = some (g, isO x)) : w.heap[g]? = some x := by
  obtain ⟨ob, h1, h2⟩ := h.ob i e
  unfold isO at h2
  subst h2
  exact h1
theorem Mem.putO (h : Mem w0 M w) (i : Nat) {g : Nat} {S : Obj → Prop} (e : M[i]? = some (g, S)) (x : Obj) : Mem w0 (M.set i (g, isO x)) (w.putObj g x) :=
  h.upd i e (grownBy_putObj' w g x) ⟨x, World.putObj_heap_same (by obtain ⟨ob, h1, _⟩ := h.ob i e; exact lt_of_ob h1), rfl⟩
theorem Mem.addO (h : Mem w0 M w) (x : Obj) : Mem w0 ((w.heap.size, isO x) :: M) (w.alloc x) :=
  h.addS ((Below.refl _ _).alloc (Nat.le_refl _) _) (Nat.le_refl _) ⟨x, World.alloc_heap_new w x, rfl⟩
/-- operations that make no deferred call, in a round, as everywhere. -/
theorem wpListIn_round {l : Nat} (hQ : ∀ a w, ¬ Q .outgrown a w) : ∀ {rest : List Oper} {a : Act} {w : World}, (∀ o ∈ rest, ∀ c, o.op ≠ .defer c) → wpList P ops Q rest a w → wpListIn (Fence.wide.inRound l) m P ops Q rest a w
  | [], _, _, _, h => h
  | o :: rest, a, w, hnd, h => by
    have ih : ∀ a w, wpList P ops Q rest a w → wpListIn (Fence.wide.inRound l) m P ops Q rest a w := fun a w => wpListIn_round hQ (fun x hx => hnd x (List.mem_cons_of_mem _ hx))
    unfold wpList at h
    unfold wpListIn
    by_cases hw : Region.wanted o (yielded ops a.tmps) = true
    · rw [if_pos hw] at h ⊢
      have h := h.resolve_right fun x => by obtain ⟨a, w, hq⟩ := x.2; exact hQ a w hq
      refine ⟨fun _ _ => trivial, ?_⟩
      unfold Oper.wp at h
      rw [Oper.semAt_eq _ _ _ (hnd o (List.mem_cons_self ..))]
      generalize (execOp a.eval o).run P w = r at h ⊢
      cases r with
      | ok nx w' =>
        cases nx with
        | value v => exact ih _ _ h
        | skip => exact ih _ _ h
        | defer d => exact ih _ _ h
        | enter f args =>
          refine ⟨fun hx => (by cases hx), CallsIn.inRound l (callsIn_wide.2 (Calls.mono (R := _) h ?_))⟩
          intro e w2 he
          cases e with
          | returned v => exact ih _ _ he
          | panicked c => exact he
          | outgrown => exact he
        | row rw_ args => exact ⟨fun hx => (by cases hx), fun c cs _ => by obtain ⟨v, w2, h1, h2⟩ := h c cs; exact ⟨v, w2, ih _ _ h1, stepsIn_wide.2 h2⟩⟩
        | _ => exact h.elim
      | halt x w' => cases x <;> first | exact h | exact h.elim
    · rw [if_neg hw] at h ⊢
      exact ⟨fun _ _ => trivial, ih _ _ h⟩
theorem wpIn_region_round {id l : Nat} {ls : List Oper} (hnd : (ls.all fun o => match o.op with | .defer _ => false | _ => true) = true) (hQ : ∀ a w, ¬ Q .outgrown a w) (h : wpList P ls.toArray Q ls a w) : (Code.region id ls.toArray false).wpIn (Fence.wide.inRound l) m P Q a w :=
  wpIn_region_lit (wpListIn_round hQ (fun o ho c e => by have := List.all_eq_true.1 hnd o ho; rw [e] at this; cases this) h)
/-- a step ahead of the call of yield. -/
theorem sqI {w2 : World} (hF : FrD D a n L) (hw : Region.wanted o (yielded ops a.tmps) = true) (hrun : (execOp a.eval o).run P w = .ok (.value v) w2) (hd : o.dst = some s) (hs : s < n)
    (h : ∀ a2, FrD D a2 n ((s, v) :: L) → wpListIn Fence.wide m P ops Q rest a2 w2) : wpListIn Fence.wide m P ops Q (o :: rest) a w := by
  unfold wpListIn
  rw [if_pos hw]
  refine ⟨fun _ _ => trivial, ?_⟩
  rw [Fence.wide_round, Oper.semAt_none, hrun, Oper.uponIn_value, hd]
  exact h _ (hF.put hs)
theorem run_callY {l : Nat} {xs : Array Operand} {ts : Array TypeId} {args : Array Value} (ho : o.op = .call { callee := .value x, args := xs, argTypes := ts }) (hx : a.eval x = .func (.yield l) #[] #[]) (hxs : xs.map a.eval = args) : (execOp a.eval o).run P w = (Instr.yield l args).run P w := by
  subst hxs
  unfold execOp
  simp only [ho, resolve, hx]
  simp [Deferred.ofValue, invoke]
/-- what a call of yield comes to. -/
def YieldW (P : Program) (l : Nat) (args : Array Value) (W : World) (R : Bool → World → Prop) : Prop :=
  ∃ fn tmps assign body, (Instr.yield l args).run P W = .ok (.round l fn tmps assign body) W ∧ RoundIn Fence.wide 0 P l fn tmps assign body W fun e W' => ∃ b, e = .returned (.bool b) ∧ R b W'
theorem sqY {l : Nat} {args : Array Value} {R : Bool → World → Prop} (hF : FrD D a n L) (hw : Region.wanted o (yielded ops a.tmps) = true) (hrun : (execOp a.eval o).run P w = (Instr.yield l args).run P w) (hy : YieldW P l args w R) (hd : o.dst = some s) (hs : s < n)
    (h : ∀ b a2 w2, R b w2 → FrD D a2 n ((s, .bool b) :: L) → wpListIn Fence.wide 0 P ops Q rest a2 w2) : wpListIn Fence.wide 0 P ops Q (o :: rest) a w := by
  obtain ⟨fn, tmps, assign, body, h1, h2⟩ := hy
  unfold wpListIn
  rw [if_pos hw]
  refine ⟨fun _ _ => trivial, ?_⟩
  rw [Fence.wide_round, Oper.semAt_none, hrun, h1, Oper.uponIn_round]
  refine ⟨fun hx => (by cases hx), h2.mono ?_⟩
  rintro e w2 ⟨b, rfl, hR⟩
  show wpListIn _ _ _ _ _ _ _ _
  rw [hd]
  exact h b _ w2 hR (hF.put hs)
theorem sqYEnd (h : Q .normal a w) : wpListIn Fence.wide m P ops Q [] a w := h
/-- the loop's record at first, and later. -/
structure IsRec (rc : Loop) (tmps : Array Value) (ps : Array Tmp) (assign body : Code) : Prop where
  state : rc.state = .ready
  pending : rc.pending = none
  tmps : rc.tmps = tmps
  params : rc.params = ps
  assign : rc.assign = assign
  body : rc.body = body
def busyR (rc : Loop) : Loop := { rc with state := .busy }
def leftR (rc : Loop) (c : Code) : Loop := { rc with state := .done, pending := some c }
theorem begin_round {l i : Nat} {rc : Loop} (hM : Mem w0 M w) (e : M[i]? = some (l, isO (.loop rc))) (hr : rc.state = .ready) {K : World → Prop} (h : ∀ w2, Mem w0 (M.set i (l, isO (.loop (busyR rc)))) w2 → K w2) : ∃ w2, (Instr.beginRound l).run P w = .ok () w2 ∧ K w2 :=
  ⟨_, run_beginRound (hM.obj i e) hr, h _ (hM.putO i e (.loop (busyR rc)))⟩
theorem round_on {l i : Nat} {rc : Loop} {R : Bool → World → Prop} (hM : Mem w0 M w) (e : M[i]? = some (l, isO (.loop (busyR rc)))) (hr : rc.state = .ready) (hp : rc.pending = none) (h : ∀ w2, Mem w0 (M.set i (l, isO (.loop rc))) w2 → R true w2) : roundPost P l (fun e W' => ∃ b, e = .returned (.bool b) ∧ R b W') .normal a w := by
  have hE := run_endRound (P := P) none (hM.obj i e)
  have er : ({ busyR rc with state := if (none : Option Code).isNone then .ready else .done, pending := none } : Loop) = rc := by
    obtain ⟨st, pe, _, _, _, _, _, _⟩ := rc
    simp only at hr hp
    subst hr hp
    rfl
  rw [er] at hE
  exact ⟨_, _, hE, true, rfl, h _ (hM.putO i e (.loop rc))⟩
theorem round_off {l i id : Nat} {rc : Loop} {R : Bool → World → Prop} (hM : Mem w0 M w) (e : M[i]? = some (l, isO (.loop (busyR rc)))) (h : ∀ w2, Mem w0 (M.set i (l, isO (.loop (leftR rc (.exit id))))) w2 → R false w2) : roundPost P l (fun e W' => ∃ b, e = .returned (.bool b) ∧ R b W') (.exit id) a w :=
  ⟨_, _, run_endRound (P := P) (some (.exit id)) (hM.obj i e), false, rfl, h _ (hM.putO i e (.loop (leftR rc (.exit id))))⟩
theorem round_ret {l i : Nat} {rc : Loop} {R : Bool → World → Prop} (hM : Mem w0 M w) (e : M[i]? = some (l, isO (.loop (busyR rc)))) (h : ∀ w2, Mem w0 (M.set i (l, isO (.loop (leftR rc .ret)))) w2 → R false w2) : roundPost P l (fun e W' => ∃ b, e = .returned (.bool b) ∧ R b W') .ret a w :=
  ⟨_, _, run_endRound (P := P) (some .ret) (hM.obj i e), false, rfl, h _ (hM.putO i e (.loop (leftR rc .ret)))⟩
abbrev rec0 (fn : FuncId) (tmps : Array Value) (ps : Array Tmp) (assign body : Code) (d : Nat) : Loop := { state := .ready, pending := none, fn := fn, tmps := tmps, params := ps, assign := assign, body := body, defers := d }
/-- the statement: the record and the block of deferred calls are laid; the iterator is called; it ends with the record at rest, and the jump that is pending is carried out. -/
theorem wkRange {g : Operand} {ps : Array Tmp} {assign body : Code} {gf : Nat} {lb : Array Value} (hg : a.eval g = .func (.func gf) #[] lb) (eg : ∀ args w, (callFunc gf args).run P w = .ok (.enter gf args) w) (hM : Mem w0 M w)
    (h : ∀ rc d l W, IsRec rc a.tmps ps assign body → w.heap.size ≤ d → w.heap.size ≤ l → Below w.heap.size w W → Mem w0 ((l, isO (.loop rc)) :: (d, isO (.deferred (some []))) :: M) W →
      Calls P gf (#[.func (.yield l) #[] #[]] ++ lb) W fun e W2 => (∃ u, e = .returned u) ∧ ∃ r2, W2.heap[l]? = some (.loop r2) ∧ r2.state ≠ .busy ∧
        (match r2.pending with
         | none => Q .normal { a with defers := { target := .collected d, args := #[] } :: a.defers } (W2.putObj l (.loop { r2 with state := .exhausted }))
         | some c => c.wp P Q { a with defers := { target := .collected d, args := #[] } :: a.defers } (W2.putObj l (.loop { r2 with state := .exhausted })))) :
    (Code.rangeFunc g ps assign body).wp P Q a w := by
  refine (wpIn_wide (n := 0)).1 (wpIn_rangeFunc fun fn _ => ?_)
  have hb : Below w.heap.size w ((w.alloc (.deferred (some []))).alloc (.loop (rec0 fn a.tmps ps assign body w.heap.size))) := ((Below.refl _ w).alloc (Nat.le_refl _) _).alloc (by simp) _
  have hM1 := (hM.addO (.deferred (some []))).addO (.loop (rec0 fn a.tmps ps assign body w.heap.size))
  have hs : (w.alloc (.deferred (some []))).heap.size = w.heap.size + 1 := World.size_alloc _ _
  have hE : (Instr.enterLoop fn a.tmps ps assign body Fence.wide.round).run P w = .ok (w.heap.size + 1, [{ target := .collected w.heap.size, args := #[] }]) ((w.alloc (.deferred (some []))).alloc (.loop (rec0 fn a.tmps ps assign body w.heap.size))) := run_enterLoop_outer _ _ _ _ _
  rw [hs] at hM1
  obtain ⟨W1, hW1⟩ : ∃ W1, (w.alloc (.deferred (some []))).alloc (.loop (rec0 fn a.tmps ps assign body w.heap.size)) = W1 := ⟨_, rfl⟩
  rw [hW1] at hM1 hb hE
  have hc := h (rec0 fn a.tmps ps assign body w.heap.size) w.heap.size (w.heap.size + 1) W1 ⟨rfl, rfl, rfl, rfl, rfl, rfl⟩ (Nat.le_refl _) (by omega) hb hM1
  clear h hM1
  refine ⟨w.heap.size + 1, [{ target := .collected w.heap.size, args := #[] }], W1, { target := .fn (.func gf) lb, args := #[.func (.yield (w.heap.size + 1)) #[] #[]] }, W1, gf, #[.func (.yield (w.heap.size + 1)) #[] #[]] ++ lb, W1, hE, ?_, fun _ _ => trivial, ?_, fun hx => (by cases hx), ?_⟩
  · simp only [resolve, hg]
    simp [go_sem]
  · simp [invoke, go_sem, eg]
  · refine callsIn_wide.2 (hc.mono ?_)
    rintro e W2 ⟨⟨u, rfl⟩, r2, h1, h2, h3⟩
    refine ⟨r2.pending, _, run_endLoop h1 h2, ?_⟩
    cases hp : r2.pending with
    | none => rw [hp] at h3; exact h3
    | some c => rw [hp] at h3; exact wpIn_wide.2 h3
/-- behind a range over a function: its mark. -/
abbrev mark (d : Nat) : Deferred := { target := .collected d, args := #[] }
theorem enters_f {f : FuncId} {fn : Func} (hf : P.funcs[f]? = some fn) (hn : (fn.name == "runtime.NumGoroutine") = false) (hb : fn.body.isNone = false) (args : Array Value) (w : World) : (callFunc f args).run P w = .ok (.enter f args) w := by
  have h1 : fn.name ≠ "runtime.NumGoroutine" := by simpa using hn
  have h2 : fn.body ≠ none := by intro e; rw [e] at hb; cases hb
  simp [callFunc, hf, h1, h2]
/-- the frame of a round with two loop variables. -/
theorem frRound2 {p q : Nat} {u v : Value} (hF : FrD D a n L) (hp : p < n) (hq : q < n) : Fr { tmps := (#[p, q].zip #[u, v]).foldl (fun t (p, v) => t.setIfInBounds p v) a.tmps, defers := [] } n ((q, v) :: (p, u) :: L) := by
  have h0 : Fr { tmps := a.tmps, defers := [] } n L := ⟨hF.size, rfl, hF.has⟩
  have h2 := (h0.put (v := u) hp).put (v := v) hq
  simpa [Act.put] using h2
theorem yieldW_of {l : Nat} {args : Array Value} {r : Loop} {R : Bool → World → Prop} (hl : w.heap[l]? = some (.loop r)) (hs : args.size = r.params.size)
    (h : r.assign.wpIn (Fence.wide.inRound l) 0 P (Exit.then (fun a₁ w₁ => ∃ w₂, (Instr.beginRound l).run P w₁ = .ok () w₂ ∧ r.body.wpIn (Fence.wide.inRound l) 0 P (roundPost P l fun e W' => ∃ b, e = .returned (.bool b) ∧ R b W') a₁ w₂) (fun _ _ _ => False))
      { tmps := (r.params.zip args).foldl (fun tmps (t, a) => tmps.setIfInBounds t a) r.tmps, defers := [] } w) : YieldW P l args w R :=
  ⟨_, _, _, _, run_yield hl hs, roundIn_of_wpIn trivial h⟩
theorem yieldW2 {l p q : Nat} {u v : Value} {rc : Loop} {assign body : Code} {R : Bool → World → Prop} (hR : IsRec rc a.tmps #[p, q] assign body) (hl : w.heap[l]? = some (.loop rc)) (hF : FrD D a n L) (hp : p < n) (hq : q < n)
    (h : ∀ b, Fr b n ((q, v) :: (p, u) :: L) → assign.wpIn (Fence.wide.inRound l) 0 P (Exit.then (fun a₁ w₁ => ∃ w₂, (Instr.beginRound l).run P w₁ = .ok () w₂ ∧ body.wpIn (Fence.wide.inRound l) 0 P (roundPost P l fun e W' => ∃ b, e = .returned (.bool b) ∧ R b W') a₁ w₂) (fun _ _ _ => False)) b w) : YieldW P l #[u, v] w R := by
  refine yieldW_of hl (by rw [hR.params]; rfl) ?_
  rw [hR.params, hR.tmps, hR.assign, hR.body]
  exact h _ (frRound2 hF hp hq)
theorem frMark {d : Nat} (hF : Fr a n L) : FrD [mark d] { a with defers := { target := .collected d, args := #[] } :: a.defers } n L := ⟨hF.size, by simp [hF.defers], hF.has⟩
theorem Mem.perm {M2 : List (Nat × (Obj → Prop))} (h : Mem w0 M w) (hp : M2.Perm M) : Mem w0 M2 w := ⟨h.below, fun x hx => h.has x (hp.subset hx), (hp.pairwise_iff (fun h e => h e.symm)).2 h.nd⟩
theorem perm3 {α : Type} (a b c : α) (r : List α) : (c :: a :: b :: r).Perm (a :: b :: c :: r) := (List.Perm.swap _ _ _).trans (.cons _ (List.Perm.swap _ _ _))
/-- the jump that is pending. -/
theorem range_left {l i : Nat} {rc : Loop} {c : Code} {a' : Act} (hM : Mem w0 M w) (e : M[i]? = some (l, isO (.loop (leftR rc c)))) (h : ∀ w2, Mem w0 (M.set i (l, isO (.loop { leftR rc c with state := .exhausted }))) w2 → c.wp P Q a' w2) :
    ∃ r2, w.heap[l]? = some (.loop r2) ∧ r2.state ≠ .busy ∧ (match r2.pending with | none => Q .normal a' (w.putObj l (.loop { r2 with state := .exhausted })) | some c => c.wp P Q a' (w.putObj l (.loop { r2 with state := .exhausted }))) :=
  ⟨leftR rc c, hM.obj i e, by simp [leftR], h _ (hM.putO i e _)⟩
theorem range_done {l i : Nat} {rc : Loop} {a' : Act} (hM : Mem w0 M w) (e : M[i]? = some (l, isO (.loop rc))) (hr : rc.state = .ready) (hp : rc.pending = none) (h : ∀ w2, Mem w0 (M.set i (l, isO (.loop { rc with state := .exhausted }))) w2 → Q .normal a' w2) :
    ∃ r2, w.heap[l]? = some (.loop r2) ∧ r2.state ≠ .busy ∧ (match r2.pending with | none => Q .normal a' (w.putObj l (.loop { r2 with state := .exhausted })) | some c => c.wp P Q a' (w.putObj l (.loop { r2 with state := .exhausted }))) :=
  ⟨rc, hM.obj i e, by rw [hr]; simp, by
    obtain ⟨st, pe, _, _, _, _, _, _⟩ := rc
    simp only at hr hp
    subst hr hp
    exact h _ (hM.putO i e _)⟩
/-- functions that hold a range over a function. -/
theorem walk_enterM {f : FuncId} {fn : Func} {c : Code} {vs : List Value} {R : Ending → World → Prop} (hf : P.funcs[f]? = some fn) (hb : fn.body = some c) (hn : fn.ntmps = n) (hv : Nat.ble vs.length n = true)
    (h : ∀ a, Fr a n (numbered vs 0) → c.wp P (bodyPostM Fence.wide 0 P fn R) a w) : Calls P f vs.toArray w R := by
  refine callsIn_wide.1 (callsIn_of_wp_marks hf hb trivial (wpIn_wide.2 (h _ ⟨?_, rfl, fun s v e => ?_⟩)))
  · have := Nat.le_of_ble_eq_true hv; subst hn; simp; omega
  · obtain ⟨_, h2⟩ := lk_numbered vs 0 s v e
    have hs := (List.getElem?_eq_some_iff.1 h2).1
    simp only [Nat.sub_zero] at h2 hs
    rw [Array.getElem?_append, if_pos (by simpa using hs)]
    simpa using h2
end
end Go.Proofs.YtconhhhggckcbaaDoor
