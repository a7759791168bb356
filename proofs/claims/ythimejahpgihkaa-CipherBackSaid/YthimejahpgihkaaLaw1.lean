/- CipherBlocks -/
import Derived.Test.YthimejahpgihkaaBlock
import Derived.Test.YthimejahpgihkaaRefBlock
import Derived.Test.YthimejahpgihkaaHold
import Derived.Stop.BytesEq
namespace Go.Proofs.Ythimejahpgihkaa
open Go.RowKit

theorem zero_block : (chacha (List.replicate 32 0) (List.replicate 12 0) 0).take 4 = [118, 184, 224, 173] := by decide +kernel

theorem bt_take (l m : List UInt8) (n i : Nat) (h : l.take n = m) (hi : i < n) : bt l i = bt m i := by
  subst h; unfold bt; simp [hi]

set_option maxRecDepth 100000 in
set_option maxHeartbeats 1000000 in
theorem fixed_any (w : World) :
    Calls Try.prog 9 #[] w fun e w' => e = .returned (.bool true) ∧ Below w.heap.size w w' := by
  have HS : Hid ((cells8 (chacha (List.replicate 32 0) (List.replicate 12 0) 0)).size = 64) := Lib.hid (by rw [cells8_size, chacha_len])
  have e0 := bt_take _ _ _ 0 zero_block (by omega)
  have e1 := bt_take _ _ _ 1 zero_block (by omega)
  have e2 := bt_take _ _ _ 2 zero_block (by omega)
  have e3 := bt_take _ _ _ 3 zero_block (by omega)
  have hl := chacha_len (List.replicate 32 0) (List.replicate 12 0) 0
  go_enter Try.func9, Try.ntmps9
  go_wp2_with fail
  refine (block_any (List.replicate 32 0) (List.replicate 12 0) 0 _ (by simp) (by simp)).mono ?_
  rintro e w1 ⟨rfl, hb⟩
  generalize chacha (List.replicate 32 0) (List.replicate 12 0) 0 = C at *
  have hB := fun (o : Obj) => Blk.new w1 27 (cells8 C)
  have c0 : (w1.alloc (.cells (cells8 C) 27)).cell? ⟨w1.heap.size, 0, none⟩ = some (.int .u8 118) := by rw [(Blk.new w1 _ _).cell, cells8_get _ _ (by omega), e0]; rfl
  have c1 : (w1.alloc (.cells (cells8 C) 27)).cell? ⟨w1.heap.size, 1, none⟩ = some (.int .u8 184) := by rw [(Blk.new w1 _ _).cell, cells8_get _ _ (by omega), e1]; rfl
  have c2 : (w1.alloc (.cells (cells8 C) 27)).cell? ⟨w1.heap.size, 2, none⟩ = some (.int .u8 224) := by rw [(Blk.new w1 _ _).cell, cells8_get _ _ (by omega), e2]; rfl
  have c3 : (w1.alloc (.cells (cells8 C) 27)).cell? ⟨w1.heap.size, 3, none⟩ = some (.int .u8 173) := by rw [(Blk.new w1 _ _).cell, cells8_get _ _ (by omega), e3]; rfl
  clear e0 e1 e2 e3 hl hB
  go_wp2_with (refine wpList_storeNew rfl 27 (.tmp 1) (.tmp 4) rfl w1 w1.heap.size rfl rfl _ rfl rfl size64b HS.out rfl (cells8_one _) ?_)
  go_ret
  exact ⟨rfl, hb.alloc hb.size _⟩

theorem eq_bytes64 (C : List UInt8) (hC : C.length = 64) (W : World) : (Op.equalIn 10000 27 (.agg (cells8 C)) (.agg (cells8 C))).run Try.prog W = .ok true W := by
  have := run_equalIn_bytes (P := Try.prog) W 9998 27 5 64 Try.underlying27 Try.underlying5 size8 C C hC hC
  rw [beq_self_eq_true] at this
  exact this

section
variable {P : Program} {S : World → Prop}
/-- a whole array read, in whatever world that meets S. -/
theorem gives_loadB {o : Oper} {a : Act} (ty : TypeId) (x : Operand) (ho : o.op = .load ty x) (g : Nat) (hx : a.eval x = .pointer (some ⟨g, 0, none⟩)) {t : TypeId} {cs : Array Value} (hB : ∀ w, S w → Blk w g t cs)
    {d : TypeDesc} (hu : P.underlying ty = some d) (hd : (match d with | .struct _ | .array _ _ => true | _ => false) = true) {m : Nat} (hi : (P.info? ty).map (·.size) = some m) (hm : cs.size = m) :
    ∀ w, S w → GivesRes P S (.agg cs) ((execOp a.eval o).run P w) := by
  intro w hS
  unfold execOp
  simp only [ho, hx, Instr.loadAt, Instr.sureAddr, Sem.run_bind, Sem.run_pure, Result.andThen_ok, run_loadVar_row w g t ty cs (0, 0) d (hB w hS) hu hd (by rw [hm]; exact hi)]
  exact ⟨rfl, hS⟩
/-- two arrays held against each other. -/
theorem gives_eql {o : Oper} {a : Act} (t t2 : TypeId) (x y : Operand) (ho : o.op = .binOp .eql t x y t2) {xs ys : Array Value} (hx : a.eval x = .agg xs) (hy : a.eval y = .agg ys) (hg : P.eqGuardType P.depth t = false)
    {b : Bool} (hE : ∀ w, (Op.equalIn 10000 t (.agg xs) (.agg ys)).run P w = .ok b w) : ∀ w, S w → GivesRes P S (.bool b) ((execOp a.eval o).run P w) := by
  intro w hS
  unfold execOp
  simp only [ho, hx, hy, Sem.run_bind, run_eqGuard_agg w _ _ _ _ _ _ hg, Result.andThen_ok, run_eql_struct, hE, Sem.run_pure]
  exact ⟨rfl, hS⟩
end

set_option maxRecDepth 100000 in
set_option maxHeartbeats 1000000 in
theorem blocks_any (k nonce : List UInt8) (n : Wd) (w : World) (hk : k.length = 32) (hn : nonce.length = 12) :
    Calls Try.prog 3 #[.agg (cells8 k), .agg (cells8 nonce), .int .u32 (nm n)] w fun e w' => e = .returned (.bool true) ∧ Below w.heap.size w w' := by
  have HK := Lib.hid hk
  have HN := Lib.hid hn
  have HK8 : Hid ((cells8 k).size = 32) := Lib.hid (by rw [cells8_size]; exact hk)
  have HN8 : Hid ((cells8 nonce).size = 12) := Lib.hid (by rw [cells8_size]; exact hn)
  have HE := Lib.hid (eq_bytes64 (chacha k nonce n) (chacha_len k nonce n))
  clear hk hn
  go_enter Try.func3, Try.ntmps3
  go_wp2
  have hB0 : Blk ((w.alloc (.cells (cells8 k) 23)).alloc (.cells (cells8 nonce) 24)) w.heap.size 23 (cells8 k) := (Blk.new _ _ _).alloc _
  have hB1 : Blk ((w.alloc (.cells (cells8 k) 23)).alloc (.cells (cells8 nonce) 24)) (w.heap.size + 1) 24 (cells8 nonce) := Blk.newAt _ _ _ (by simp)
  have hbel : Below w.heap.size w ((w.alloc (.cells (cells8 k) 23)).alloc (.cells (cells8 nonce) 24)) := ((Below.refl _ _).alloc (Nat.le_refl _) _).alloc (by simp) _
  generalize (w.alloc (.cells (cells8 k) 23)).alloc (.cells (cells8 nonce) 24) = w1 at *
  have hL0 : ∀ W, Below w1.heap.size w1 W → Blk W w.heap.size 23 (cells8 k) := fun W h => hB0.below h hB0.lt
  have hL1 : ∀ W, Below w1.heap.size w1 W → Blk W (w.heap.size + 1) 24 (cells8 nonce) := fun W h => hB1.below h hB1.lt
  have H0 := Lib.hid hL0
  have H1 := Lib.hid hL1
  clear hL0 hL1 hB0 hB1
  refine wp_region_val (by kernel_rfl) (by kernel_rfl) (Below w1.heap.size w1) (Below.refl _ _).drew ?_
  refine wpVal_stepK rfl (by intro W hS; go_simp; exact (fixed_any _).mono (fun e w' h => ⟨h.1, hS.trans (h.2.mono hS.size)⟩)) (fun K hK => ?_); go_simp; refine hK _ ?_; clear hK K
  refine wpVal_stepK rfl (by intro W hS; go_simp; exact ⟨rfl, hS⟩) (fun K hK => ?_); go_simp; refine hK _ ?_; clear hK K
  refine wpVal_stepK rfl (gives_loadB 23 (.tmp 3) rfl w.heap.size rfl H0.out Try.underlying23 rfl size32k HK8.out) (fun K hK => ?_); go_simp; refine hK _ ?_; clear hK K
  refine wpVal_stepK rfl (gives_loadB 24 (.tmp 4) rfl (w.heap.size + 1) rfl H1.out Try.underlying24 rfl size12b HN8.out) (fun K hK => ?_); go_simp; refine hK _ ?_; clear hK K
  refine wpVal_stepK rfl (by intro W hS; go_simp; exact ⟨rfl, hS⟩) (fun K hK => ?_); go_simp; refine hK _ ?_; clear hK K
  refine wpVal_stepK rfl (by intro W hS; go_simp; exact (block_any k nonce n _ HK.out HN.out).mono (fun e w' h => ⟨h.1, hS.trans (h.2.mono hS.size)⟩)) (fun K hK => ?_); go_simp; refine hK _ ?_; clear hK K
  refine wpVal_stepK rfl (gives_loadB 23 (.tmp 3) rfl w.heap.size rfl H0.out Try.underlying23 rfl size32k HK8.out) (fun K hK => ?_); go_simp; refine hK _ ?_; clear hK K
  refine wpVal_stepK rfl (gives_loadB 24 (.tmp 4) rfl (w.heap.size + 1) rfl H1.out Try.underlying24 rfl size12b HN8.out) (fun K hK => ?_); go_simp; refine hK _ ?_; clear hK K
  refine wpVal_stepK rfl (by intro W hS; go_simp; exact ⟨rfl, hS⟩) (fun K hK => ?_); go_simp; refine hK _ ?_; clear hK K
  refine wpVal_stepK rfl (by intro W hS; go_simp; exact (rblock_any k nonce n _ HK.out HN.out).mono (fun e w' h => ⟨h.1, hS.trans (h.2.mono hS.size)⟩)) (fun K hK => ?_); go_simp; refine hK _ ?_; clear hK K
  refine wpVal_stepK rfl (gives_eql 27 27 (.tmp 12) (.tmp 16) rfl rfl rfl (by kernel_rfl) HE.out) (fun K hK => ?_); go_simp; refine hK _ ?_; clear hK K
  refine wpVal_stepK rfl (by intro W hS; go_simp; exact ⟨rfl, hS⟩) (fun K hK => ?_); go_simp; refine hK _ ?_; clear hK K
  refine wpVal_stepK rfl (by intro W hS; go_simp; exact ⟨rfl, hS⟩) (fun K hK => ?_); go_simp; refine hK _ ?_; clear hK K
  refine wpVal_nil ?_
  intro w2 hS
  go_wp2
  go_ret
  exact ⟨rfl, hbel.trans (hS.mono hbel.size)⟩
end Go.Proofs.Ythimejahpgihkaa
