/- The walk of the law HashSums. -/
import Derived.Test.YthimejahpgihkaaDoorAlive
namespace Go.Proofs.YthimejahpgihkaaDoor
open Go.RowKit

theorem eqD (C D : List UInt8) (hC : C.length = 32) (hD : D.length = 32) (W : World) : (Op.equalIn 10000 24 (.agg (cells8 C)) (.agg (cells8 D))).run Tryd.prog W = .ok (C == D) W :=
  run_equalIn_bytes (P := Tryd.prog) W 9998 24 5 32 Tryd.underlying24 Tryd.underlying5 so8 C D hC hD
theorem eqSame (C : List UInt8) (hC : C.length = 32) (W : World) : (Op.equalIn 10000 24 (.agg (cells8 C)) (.agg (cells8 C))).run Tryd.prog W = .ok true W := by
  rw [eqD C C hC hC W, beq_self_eq_true]

set_option maxRecDepth 100000 in
set_option maxHeartbeats 1000000 in
theorem lawSums_any (s : List UInt8) (w : World) (hG : Glob w) (hs : s.length ≤ maxLen) :
    Calls Tryd.prog 3 #[.string ⟨s.toArray⟩] w fun e w' => e = .returned (.bool true) ∧ Below w.heap.size w w' := by
  have HG := Lib.hid hG
  clear hG
  unfold maxLen at hs
  by_cases hlen : 700 < s.length
  · have hd : decide ((700 : Int) < ((s.length : Nat) : Int)) = true := by simp; omega
    go_enter Tryd.func3, Tryd.ntmps3
    go_wp2_with fail
    refine (alive_any _ HG.out).mono ?_
    rintro e w1 ⟨rfl, hb⟩
    go_wp2
    go_ret
    exact ⟨rfl, hb⟩
  · have hd : decide ((700 : Int) < ((s.length : Nat) : Int)) = false := by simp; omega
    have HE := Lib.hid (eqSame (sumS s) (sumS_len s))
    go_enter Tryd.func3, Tryd.ntmps3
    go_wp2_with fail
    refine (alive_any _ HG.out).mono ?_
    rintro e w1 ⟨rfl, hb⟩
    have HG1 := Lib.hid (HG.out.below hb)
    go_wp2_with fail
    have hS := Strs.new w1 [s] 9 1 #[.string ⟨s.toArray⟩] rfl
    have hf : [s].flatten = s := by simp
    refine (sum_any [s] _ _ (HG1.out.alloc _) hS (by rw [hf]; omega) (by simp)).mono ?_
    rintro e w2 ⟨rfl, hb2⟩
    rw [hf]
    have hb2' := hb.trans ((((Below.refl _ _).alloc (Nat.le_refl _) _).trans (hb2.mono (by simp))).mono hb.size)
    clear hf hS hb2
    obtain ⟨D, hD⟩ : ∃ D, sumS s = D := ⟨_, rfl⟩
    rw [hD] at HE ⊢
    have HD := Lib.hid hD
    clear hD
    go_wp2_with fail
    refine (one_any s _ (by omega)).mono ?_
    rintro e w3 ⟨rfl, hb3⟩
    rw [HD.out]
    have hb3' := hb2'.trans (hb3.mono hb2'.size)
    go_wp2_with (refine wpList_eqlA (xs := cells8 D) (ys := cells8 D) (b := true) rfl 24 24 (.tmp 11) (.tmp 13) rfl rfl rfl (by kernel_rfl) HE.out ?_)
    go_ret
    exact ⟨rfl, hb3'⟩
end Go.Proofs.YthimejahpgihkaaDoor
