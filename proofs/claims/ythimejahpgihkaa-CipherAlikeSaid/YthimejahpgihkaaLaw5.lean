/- The walk of the law CipherAlike: it answers true, whatever comes in, and leaves old memory as it was. Printed by gen_law5.py. -/
import Derived.Test.YthimejahpgihkaaLaw3
namespace Go.Proofs.Ythimejahpgihkaa
open Go.RowKit
attribute [local go_sem] str_at

set_option maxRecDepth 100000 in
set_option maxHeartbeats 1000000 in
theorem calike_any (k nonce : List UInt8) (n : Wd) (a b : List UInt8) (w : World) (hk : k.length = 32) (hn : nonce.length = 12) (hda : a.length ≤ maxLen) (hdb : b.length ≤ maxLen) :
    Calls Try.prog 7 #[.agg (caseCells k nonce n), .string ⟨a.toArray⟩, .string ⟨b.toArray⟩] w fun e w' => e = .returned (.bool true) ∧ Below w.heap.size w w' := by
  have HK := Lib.hid hk
  have HN := Lib.hid hn
  clear hk hn
  unfold maxLen at hda hdb
  have hb1 : Below w.heap.size w (w.alloc (.cells (caseCells k nonce n) 31)) := (Below.refl _ _).alloc (Nat.le_refl _) _
  by_cases hlen : 5000 < a.length
  · have hdec : decide ((5000 : Int) < (a.length : Int)) = true := by simp; omega
    go_enter Try.func7, Try.ntmps7
    go_wp2_with fail
    refine (fixed_any _).mono ?_
    rintro e w1 ⟨rfl, hb⟩
    go_wp2
    go_ret
    exact ⟨rfl, hb1.trans (hb.mono hb1.size)⟩
  · have hdec : decide ((5000 : Int) < (a.length : Int)) = false := by simp; omega
    by_cases hlenb : 5000 < b.length
    · have hdecb : (5000 : Int) < (b.length : Int) := by omega
      go_enter Try.func7, Try.ntmps7
      go_wp2_with fail
      refine (fixed_any _).mono ?_
      rintro e w1 ⟨rfl, hb⟩
      go_wp2
      go_ret
      exact ⟨rfl, hb1.trans (hb.mono hb1.size)⟩
    · have hdecb : decide ((5000 : Int) < (b.length : Int)) = false := by simp; omega
      have hla : (a.length : Int) ≤ 5000 := by omega
      have hlb : (b.length : Int) ≤ 5000 := by omega
      go_enter Try.func7, Try.ntmps7
      go_wp2
      have H0 := Lib.hid (fun W (h : Below (w.alloc (.cells (caseCells k nonce n) 31)).heap.size (w.alloc (.cells (caseCells k nonce n) 31)) W) => Blk.newBelow h)
      generalize w.alloc (.cells (caseCells k nonce n) 31) = w1 at *
      refine wp_region_val (by kernel_rfl) (by kernel_rfl) (Below w1.heap.size w1) (Below.refl _ _).drew ?_
      refine wpVal_stepK rfl (by intro W hS; go_simp; exact ⟨rfl, hS⟩) (fun K hK => ?_); go_simp; refine hK _ ?_; clear hK K
      refine wpVal_stepK rfl (gives_loadM 23 (.tmp 19) rfl w.heap.size 0 rfl k (fun W h => case_key (H0.out W h)) Try.underlying23 rfl size32k HK.out) (fun K hK => ?_); go_simp; refine hK _ ?_; clear hK K
      refine wpVal_stepK rfl (by intro W hS; go_simp; exact ⟨rfl, hS⟩) (fun K hK => ?_); go_simp; refine hK _ ?_; clear hK K
      refine wpVal_stepK rfl (gives_loadM 24 (.tmp 21) rfl w.heap.size 32 rfl nonce (fun W h => case_nonce (H0.out W h) HK.out) Try.underlying24 rfl size12b HN.out) (fun K hK => ?_); go_simp; refine hK _ ?_; clear hK K
      refine wpVal_stepK rfl (by intro W hS; go_simp; exact ⟨rfl, hS⟩) (fun K hK => ?_); go_simp; refine hK _ ?_; clear hK K
      refine wpVal_stepK rfl (by intro W hS; have c := case_num (H0.out W hS) HK.out HN.out; go_simp; exact ⟨rfl, hS⟩) (fun K hK => ?_); go_simp; refine hK _ ?_; clear hK K
      refine wpVal_stepK rfl (by intro W hS; go_simp; exact ⟨rfl, hS⟩) (fun K hK => ?_); go_simp; refine hK _ ?_; clear hK K
      refine wpVal_stepK rfl (by intro W hS; go_simp; exact (xor_any k nonce n a _ HK.out HN.out (by omega)).mono (fun e w' h => ⟨h.1, hS.trans (h.2.mono hS.size)⟩)) (fun K hK => ?_); go_simp; refine hK _ ?_; clear hK K
      refine wpVal_stepK rfl (by intro W hS; go_simp; exact ⟨rfl, hS⟩) (fun K hK => ?_); go_simp; refine hK _ ?_; clear hK K
      refine wpVal_stepK rfl (gives_loadM 23 (.tmp 27) rfl w.heap.size 0 rfl k (fun W h => case_key (H0.out W h)) Try.underlying23 rfl size32k HK.out) (fun K hK => ?_); go_simp; refine hK _ ?_; clear hK K
      refine wpVal_stepK rfl (by intro W hS; go_simp; exact ⟨rfl, hS⟩) (fun K hK => ?_); go_simp; refine hK _ ?_; clear hK K
      refine wpVal_stepK rfl (gives_loadM 24 (.tmp 29) rfl w.heap.size 32 rfl nonce (fun W h => case_nonce (H0.out W h) HK.out) Try.underlying24 rfl size12b HN.out) (fun K hK => ?_); go_simp; refine hK _ ?_; clear hK K
      refine wpVal_stepK rfl (by intro W hS; go_simp; exact ⟨rfl, hS⟩) (fun K hK => ?_); go_simp; refine hK _ ?_; clear hK K
      refine wpVal_stepK rfl (by intro W hS; have c := case_num (H0.out W hS) HK.out HN.out; go_simp; exact ⟨rfl, hS⟩) (fun K hK => ?_); go_simp; refine hK _ ?_; clear hK K
      refine wpVal_stepK rfl (by intro W hS; go_simp; exact ⟨rfl, hS⟩) (fun K hK => ?_); go_simp; refine hK _ ?_; clear hK K
      refine wpVal_stepK rfl (by intro W hS; go_simp; exact (xor_any k nonce n b _ HK.out HN.out (by omega)).mono (fun e w' h => ⟨h.1, hS.trans (h.2.mono hS.size)⟩)) (fun K hK => ?_); go_simp; refine hK _ ?_; clear hK K
      have HAL := Lib.hid (xorS_alike k nonce n a b)
      have HXL := Lib.hid (xorS_len k nonce n a)
      have HYL := Lib.hid (xorS_len k nonce n b)
      generalize xorS k nonce n a = X at *
      generalize xorS k nonce n b = Y at *
      refine wpVal_stepK rfl (by intro W hS; go_simp; exact ⟨rfl, hS⟩) (fun K hK => ?_); go_simp; refine hK _ ?_; clear hK K
      refine wpVal_stepK rfl (by intro W hS; go_simp; exact ⟨rfl, hS⟩) (fun K hK => ?_); go_simp; refine hK _ ?_; clear hK K
      refine wpVal_nil ?_
      intro w2 hS
      have hb2 : Below w.heap.size w w2 := hb1.trans (hS.mono hb1.size)
      clear H0 hS hb1
      have hx0 : ((X.length : Int) != (a.length : Int)) = false := by rw [HXL.out]; simp
      have hy0 : ((Y.length : Int) != (b.length : Int)) = false := by rw [HYL.out]; simp
      go_wp2
      clear hx0 hy0
      go_loopw [9] (fun t wr => ∃ i : Nat, i ≤ a.length ∧ i ≤ b.length ∧ t = .int .i64 i ∧ Below w.heap.size w wr) (fun t _ => a.length - (intOf t).toNat)
      case atStart => exact ⟨0, by omega, by omega, rfl, hb2⟩
      case round =>
        clear hb2
        obtain ⟨i, hia, hib, rfl, hR⟩ := hrel
        by_cases h1 : i < a.length
        · have h1d : decide ((i : Int) < (a.length : Int)) = true := by simp; omega
          by_cases h2 : i < b.length
          · have h2d : decide ((i : Int) < (b.length : Int)) = true := by simp; omega
            have hxi : i < X.length := by have := HXL.out; omega
            have hyi : i < Y.length := by have := HYL.out; omega
            have h1i : (i : Int) < (a.length : Int) := by omega
            have h2i : (i : Int) < (b.length : Int) := by omega
            have hal := HAL.out i h1 h2
            have e1 := xor8 (bt X i) (bt Y i)
            have e2 := xor8 (bt a i) (bt b i)
            have hne : (bits .xor .u8 ((bt X i).toNat : Int) ((bt Y i).toNat : Int) != bits .xor .u8 ((bt a i).toNat : Int) ((bt b i).toNat : Int)) = false := by rw [e1, e2, hal]; simp
            clear hal e1 e2
            go_wp2
            refine wp_region_still_lit (by kernel_rfl) (by kernel_rfl) ?_
            change wpStill _ _ wr.drew _ _ _
            repeat still_step
            refine wpStill_nil ?_
            go_wp2
            go_roundw
            case rel => exact ⟨i + 1, by omega, by omega, by go_num, hR.drew⟩
            case measure => simp [intOf]; omega
          · have h2d : decide ((i : Int) < (b.length : Int)) = false := by simp; omega
            go_wp2_with fail
            refine (fixed_any _).mono ?_
            rintro e w3 ⟨rfl, hb⟩
            go_wp2
            go_ret
            exact ⟨rfl, hR.trans (hb.mono hR.size)⟩
        · have h1d : decide ((i : Int) < (a.length : Int)) = false := by simp; omega
          go_wp2_with fail
          refine (fixed_any _).mono ?_
          rintro e w3 ⟨rfl, hb⟩
          go_wp2
          go_ret
          exact ⟨rfl, hR.trans (hb.mono hR.size)⟩
end Go.Proofs.Ythimejahpgihkaa
