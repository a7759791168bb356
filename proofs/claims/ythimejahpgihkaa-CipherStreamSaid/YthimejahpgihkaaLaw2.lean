/- The walk of the law CipherXors: it answers true, whatever comes in, and leaves old memory as it was. Printed by gen_law2.py. -/
import Derived.Test.YthimejahpgihkaaCase
namespace Go.Proofs.Ythimejahpgihkaa
open Go.RowKit

theorem Blk.newBelow {w W : World} {t : TypeId} {cs : Array Value} (h : Below (w.alloc (.cells cs t)).heap.size (w.alloc (.cells cs t)) W) : Blk W w.heap.size t cs := (Blk.new w t cs).below h (by simp)

set_option maxRecDepth 100000 in
set_option maxHeartbeats 1000000 in
theorem cxors_any (k nonce : List UInt8) (n : Wd) (data : List UInt8) (w : World) (hk : k.length = 32) (hn : nonce.length = 12) (hd : data.length ≤ maxLen) :
    Calls Try.prog 4 #[.agg (caseCells k nonce n), .string ⟨data.toArray⟩] w fun e w' => e = .returned (.bool true) ∧ Below w.heap.size w w' := by
  have HK := Lib.hid hk
  have HN := Lib.hid hn
  clear hk hn
  unfold maxLen at hd
  have hb1 : Below w.heap.size w (w.alloc (.cells (caseCells k nonce n) 31)) := (Below.refl _ _).alloc (Nat.le_refl _) _
  by_cases hlen : 400 < data.length
  · have hlen' : (400 : Int) < (data.length : Int) := by omega
    go_enter Try.func4, Try.ntmps4
    go_wp2_with fail
    refine (fixed_any _).mono ?_
    rintro e w1 ⟨rfl, hb⟩
    go_wp2
    go_ret
    exact ⟨rfl, hb1.trans (hb.mono hb1.size)⟩
  · have hlen' : (data.length : Int) ≤ 400 := by omega
    go_enter Try.func4, Try.ntmps4
    go_wp2
    have H0 := Lib.hid (fun W (h : Below (w.alloc (.cells (caseCells k nonce n) 31)).heap.size (w.alloc (.cells (caseCells k nonce n) 31)) W) => Blk.newBelow h)
    generalize w.alloc (.cells (caseCells k nonce n) 31) = w1 at *
    refine wp_region_val (by kernel_rfl) (by kernel_rfl) (Below w1.heap.size w1) (Below.refl _ _).drew ?_
    refine wpVal_stepK rfl (by intro W hS; go_simp; exact (fixed_any _).mono (fun e w' h => ⟨h.1, hS.trans (h.2.mono hS.size)⟩)) (fun K hK => ?_); go_simp; refine hK _ ?_; clear hK K
    refine wpVal_stepK rfl (by intro W hS; go_simp; exact ⟨rfl, hS⟩) (fun K hK => ?_); go_simp; refine hK _ ?_; clear hK K
    refine wpVal_stepK rfl (by intro W hS; go_simp; exact ⟨rfl, hS⟩) (fun K hK => ?_); go_simp; refine hK _ ?_; clear hK K
    refine wpVal_stepK rfl (gives_loadM 23 (.tmp 11) rfl w.heap.size 0 rfl k (fun W h => case_key (H0.out W h)) Try.underlying23 rfl size32k HK.out) (fun K hK => ?_); go_simp; refine hK _ ?_; clear hK K
    refine wpVal_stepK rfl (by intro W hS; go_simp; exact ⟨rfl, hS⟩) (fun K hK => ?_); go_simp; refine hK _ ?_; clear hK K
    refine wpVal_stepK rfl (gives_loadM 24 (.tmp 13) rfl w.heap.size 32 rfl nonce (fun W h => case_nonce (H0.out W h) HK.out) Try.underlying24 rfl size12b HN.out) (fun K hK => ?_); go_simp; refine hK _ ?_; clear hK K
    refine wpVal_stepK rfl (by intro W hS; go_simp; exact ⟨rfl, hS⟩) (fun K hK => ?_); go_simp; refine hK _ ?_; clear hK K
    refine wpVal_stepK rfl (by intro W hS; have c := case_num (H0.out W hS) HK.out HN.out; go_simp; exact ⟨rfl, hS⟩) (fun K hK => ?_); go_simp; refine hK _ ?_; clear hK K
    refine wpVal_stepK rfl (by intro W hS; go_simp; exact ⟨rfl, hS⟩) (fun K hK => ?_); go_simp; refine hK _ ?_; clear hK K
    refine wpVal_stepK rfl (by intro W hS; go_simp; exact (xor_any k nonce n data _ HK.out HN.out (by omega)).mono (fun e w' h => ⟨h.1, hS.trans (h.2.mono hS.size)⟩)) (fun K hK => ?_); go_simp; refine hK _ ?_; clear hK K
    refine wpVal_stepK rfl (by intro W hS; go_simp; exact ⟨rfl, hS⟩) (fun K hK => ?_); go_simp; refine hK _ ?_; clear hK K
    refine wpVal_stepK rfl (gives_loadM 23 (.tmp 19) rfl w.heap.size 0 rfl k (fun W h => case_key (H0.out W h)) Try.underlying23 rfl size32k HK.out) (fun K hK => ?_); go_simp; refine hK _ ?_; clear hK K
    refine wpVal_stepK rfl (by intro W hS; go_simp; exact ⟨rfl, hS⟩) (fun K hK => ?_); go_simp; refine hK _ ?_; clear hK K
    refine wpVal_stepK rfl (gives_loadM 24 (.tmp 21) rfl w.heap.size 32 rfl nonce (fun W h => case_nonce (H0.out W h) HK.out) Try.underlying24 rfl size12b HN.out) (fun K hK => ?_); go_simp; refine hK _ ?_; clear hK K
    refine wpVal_stepK rfl (by intro W hS; go_simp; exact ⟨rfl, hS⟩) (fun K hK => ?_); go_simp; refine hK _ ?_; clear hK K
    refine wpVal_stepK rfl (by intro W hS; have c := case_num (H0.out W hS) HK.out HN.out; go_simp; exact ⟨rfl, hS⟩) (fun K hK => ?_); go_simp; refine hK _ ?_; clear hK K
    refine wpVal_stepK rfl (by intro W hS; go_simp; exact ⟨rfl, hS⟩) (fun K hK => ?_); go_simp; refine hK _ ?_; clear hK K
    refine wpVal_stepK rfl (by intro W hS; go_simp; exact (rxors_any k nonce n data _ HK.out HN.out (by omega)).mono (fun e w' h => ⟨h.1, hS.trans (h.2.mono hS.size)⟩)) (fun K hK => ?_); go_simp; refine hK _ ?_; clear hK K
    generalize xorS k nonce n data = X at *
    refine wpVal_stepK rfl (by intro W hS; go_simp; exact ⟨rfl, hS⟩) (fun K hK => ?_); go_simp; refine hK _ ?_; clear hK K
    refine wpVal_stepK rfl (by intro W hS; go_simp; exact ⟨rfl, hS⟩) (fun K hK => ?_); go_simp; refine hK _ ?_; clear hK K
    refine wpVal_stepK rfl (by intro W hS; go_simp; exact ⟨rfl, hS⟩) (fun K hK => ?_); go_simp; refine hK _ ?_; clear hK K
    refine wpVal_nil ?_
    intro w2 hS
    go_wp2
    go_ret
    exact ⟨rfl, hb1.trans (hS.mono hb1.size)⟩
end Go.Proofs.Ythimejahpgihkaa
