/- Steps of regions that draw their order: whole arrays read, arrays held against each other; no program in sight. -/
import Derived.Test.YtilbebjjmnncdaaDoorPlain
import Derived.Test.YtilbebjjmnncdaaDoorHold
import Derived.StillTailTactics
import Derived.Stop.BytesEq
import Derived.Deep.MidRow
namespace Go.Proofs.YtilbebjjmnncdaaDoor
open Go.RowKit

section
variable {P : Program} {S : World → Prop}
/-- a whole array read, in a still region. -/
theorem wpStill_loadB {ops : Array Oper} {w : World} {Q : Act → Prop} {a : Act} {o : Oper} {rest : List Oper} (hw : Region.wanted o (yielded ops a.tmps) = true) (ty : TypeId) (x : Operand) (ho : o.op = .load ty x)
    (g : Nat) (hx : a.eval x = .pointer (some ⟨g, 0, none⟩)) {t : TypeId} {cs : Array Value} (hB : Blk w g t cs) {d : TypeDesc} (hu : P.underlying ty = some d)
    (hd : (match d with | .struct _ | .array _ _ => true | _ => false) = true) {m : Nat} (hi : (P.info? ty).map (·.size) = some m) (hm : cs.size = m)
    (hK : ∀ K : Act → Prop, (∀ a, wpStill P ops w Q rest a → K a) → K (a.put o.dst (.agg cs))) : wpStill P ops w Q (o :: rest) a := by
  refine wpStill_step (fun K hK' => ?_)
  rw [if_pos hw]
  unfold Oper.still execOp
  simp only [ho, hx, Instr.loadAt, Instr.sureAddr, Sem.run_bind, Sem.run_pure, Result.andThen_ok, run_loadVar_row w g t ty cs (0, 0) d hB hu hd (by rw [hm]; exact hi)]
  exact ⟨rfl, hK K hK'⟩
/-- a whole array read, in whatever world that meets S. -/
theorem gives_loadB {o : Oper} {a : Act} (ty : TypeId) (x : Operand) (ho : o.op = .load ty x) (g : Nat) (hx : a.eval x = .pointer (some ⟨g, 0, none⟩)) {t : TypeId} {cs : Array Value} (hB : ∀ w, S w → Blk w g t cs)
    {d : TypeDesc} (hu : P.underlying ty = some d) (hd : (match d with | .struct _ | .array _ _ => true | _ => false) = true) {m : Nat} (hi : (P.info? ty).map (·.size) = some m) (hm : cs.size = m) :
    ∀ w, S w → GivesRes P S (.agg cs) ((execOp a.eval o).run P w) := by
  intro w hS
  unfold execOp
  simp only [ho, hx, Instr.loadAt, Instr.sureAddr, Sem.run_bind, Sem.run_pure, Result.andThen_ok, run_loadVar_row w g t ty cs (0, 0) d (hB w hS) hu hd (by rw [hm]; exact hi)]
  exact ⟨rfl, hS⟩
/-- two arrays held against each other. -/
theorem gives_eql {o : Oper} {a : Act} (t t2 : TypeId) (x y : Operand) (ho : o.op = .binOp .eql t x y t2) {xs ys : Array Value} (hx : a.eval x = .agg xs) (hy : a.eval y = .agg ys) (hg : P.eqGuardType P.depth t = false)
    {b : Bool} (hE : ∀ w, (Op.equalIn 10000 t (.agg xs) (.agg ys)).run P w = .ok b w) : ∀ w, S w → GivesRes P S (.bool b) ((execOp a.eval o).run P w) := by
  intro w hS
  unfold execOp
  simp only [ho, hx, hy, Sem.run_bind, run_eqGuard_agg w _ _ _ _ _ _ hg, Result.andThen_ok, run_eql_struct, hE, Sem.run_pure]
  exact ⟨rfl, hS⟩
/-- the same in a plain region, guarded or not. -/
theorem wpList_eqlA {w : World} {ops : Array Oper} {rest : List Oper} {o : Oper} {a : Act} {Q : Exit → Act → World → Prop} (hw : Region.wanted o (yielded ops a.tmps) = true) (t t2 : TypeId) (x y : Operand) (ho : o.op = .binOp .eql t x y t2)
    {xs ys : Array Value} (hx : a.eval x = .agg xs) (hy : a.eval y = .agg ys) (hg : P.eqGuardType P.depth t = false) {b : Bool} (hE : ∀ w, (Op.equalIn 10000 t (.agg xs) (.agg ys)).run P w = .ok b w)
    (h : wpList P ops Q rest (a.put o.dst (.bool b)) w) : wpList P ops Q (o :: rest) a w := by
  refine wpList_step fun K hK => ?_
  rw [if_pos hw]
  unfold Oper.wp execOp
  simp only [ho, hx, hy, Sem.run_bind, run_eqGuard_agg w _ _ _ _ _ _ hg, Result.andThen_ok, run_eql_struct, hE, Sem.run_pure]
  exact hK _ _ h
end
end Go.Proofs.YtilbebjjmnncdaaDoor
