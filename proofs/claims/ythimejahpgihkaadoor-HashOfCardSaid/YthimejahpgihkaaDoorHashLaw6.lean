/- The walk of the law HashOf. -/
import Derived.Test.YthimejahpgihkaaDoorHashLaw1
import Derived.Test.YthimejahpgihkaaDoorRof
import Derived.Test.YthimejahpgihkaaDoorTexts
import Derived.Test.YthimejahpgihkaaDoorFrame
namespace Go.Proofs.YthimejahpgihkaaDoor
open Go.RowKit

set_option maxRecDepth 100000 in
set_option maxHeartbeats 1000000 in
theorem lawOf_any (s : List UInt8) (w : World) (hG : Glob w) (hs : s.length ≤ maxLen) :
    Calls Tryd.prog 8 #[.string ⟨s.toArray⟩] w fun e w' => e = .returned (.bool true) ∧ Below w.heap.size w w' := by
  have HG := Lib.hid hG
  have HSM := Lib.hid hs
  clear hG
  unfold maxLen at hs
  by_cases hlen : 300 < s.length
  · have hd : decide ((300 : Int) < ((s.length : Nat) : Int)) = true := by simp; omega
    go_enter Tryd.func8, Tryd.ntmps8
    go_wp2_with fail
    refine (alive_any _ HG.out).mono ?_
    rintro e w1 ⟨rfl, hb⟩
    go_wp2
    go_ret
    exact ⟨rfl, hb⟩
  · have hd : decide ((300 : Int) < ((s.length : Nat) : Int)) = false := by simp; omega
    have HE := Lib.hid (eqSame (ofD s) (ofD_len s))
    have HD8 : Hid ((cells8 (ofD s)).size = 32) := Lib.hid (by rw [cells8_size, ofD_len])
    have HDL := Lib.hid (ofD_len s)
    have HZ : Hid ((cells8 (List.replicate 32 0)).size = 32) := Lib.hid (by rw [cells8_size, List.length_replicate])
    have HBK := Lib.hid (of_back s)
    go_enter Tryd.func8, Tryd.ntmps8
    go_wp2_with fail
    refine (alive_any _ HG.out).mono ?_
    rintro e w1 ⟨rfl, hb⟩
    go_wp2_with fail
    refine (of_any s _ HSM.out).mono ?_
    rintro e w2 ⟨rfl, hb2⟩
    have hb2' := hb.trans (hb2.mono hb.size)
    clear hb hb2
    obtain ⟨D, hD⟩ : ∃ D, ofD s = D := ⟨_, rfl⟩
    rw [hD] at HE HD8 HDL HBK ⊢
    have HD := Lib.hid hD
    clear hD
    obtain ⟨b, hb⟩ : ∃ b, ofOk s = b := ⟨_, rfl⟩
    rw [hb] at HBK ⊢
    have HB := Lib.hid hb
    clear hb
    go_upto_region 6 with (refine wpList_storeNew (c := cells8 (List.replicate 32 0)) rfl 24 (.tmp 3) (.tmp 15) rfl w2 w2.heap.size rfl rfl (cells8 D) rfl rfl sz32d HD8.out HZ.out (cells8_one _) ?_)
    have hB3 : Blk (w2.alloc (.cells (cells8 D) 24)) w2.heap.size 24 (cells8 D) := Blk.new _ _ _
    have hb3 := hb2'.alloc hb2'.size (.cells (cells8 D) 24)
    clear hb2'
    generalize w2.alloc (.cells (cells8 D) 24) = w3 at *
    generalize w2.heap.size = g3 at *
    go_wp2_with fail
    refine (rof_any s _ HSM.out).mono ?_
    rintro e w4 ⟨rfl, hb4⟩
    rw [HD.out, HB.out]
    have hB4 := hB3.below hb4 hB3.lt
    have hb4' := hb3.trans (hb4.mono hb3.size)
    have hlt4 := Nat.lt_of_lt_of_le hB3.lt hb4.size
    clear hb3 hb4 hB3
    go_upto_region 7 with (refine wpList_storeNew (c := cells8 (List.replicate 32 0)) rfl 24 (.tmp 5) (.tmp 20) rfl w4 w4.heap.size rfl rfl (cells8 D) rfl rfl sz32d HD8.out HZ.out (cells8_one _) ?_)
    have hB5 : Blk (w4.alloc (.cells (cells8 D) 24)) w4.heap.size 24 (cells8 D) := Blk.new _ _ _
    have hB5' := hB4.alloc (.cells (cells8 D) 24)
    have hb5 := hb4'.alloc hb4'.size (.cells (cells8 D) 24)
    clear hb4' hB4
    generalize w4.alloc (.cells (cells8 D) 24) = w5 at *
    generalize w4.heap.size = g5 at *
    cases b
    · go_wp2_with (first | (refine wpList_loadBw (cs := cells8 D) rfl 24 (.tmp 3) rfl g3 rfl hB5' Tryd.underlying24 rfl sz32d HD8.out ?_) | (refine wpList_loadB (cs := cells8 D) rfl 24 (.tmp 5) rfl g5 rfl hB5 Tryd.underlying24 rfl sz32d HD8.out ?_) | (refine wpList_eqlA (xs := cells8 D) (ys := cells8 D) (b := true) rfl 24 24 (.tmp 22) (.tmp 23) rfl rfl rfl (by kernel_rfl) HE.out ?_))
      go_ret
      exact ⟨rfl, hb5⟩
    · go_wp2_with (first | (refine wpList_loadBw (cs := cells8 D) rfl 24 (.tmp 3) rfl g3 rfl hB5' Tryd.underlying24 rfl sz32d HD8.out ?_) | (refine wpList_loadB (cs := cells8 D) rfl 24 (.tmp 5) rfl g5 rfl hB5 Tryd.underlying24 rfl sz32d HD8.out ?_) | (refine wpList_eqlA (xs := cells8 D) (ys := cells8 D) (b := true) rfl 24 24 (.tmp 22) (.tmp 23) rfl rfl rfl (by kernel_rfl) HE.out ?_))
      refine (hex_any D _ HDL.out).mono ?_
      rintro e w6 ⟨rfl, hb6⟩
      rw [HBK.out trivial]
      have hb7 := hb5.trans (hb6.mono hb5.size)
      clear hB5 hB5' hb5 hb6
      go_wp2
      go_ret
      exact ⟨rfl, hb7⟩
end Go.Proofs.YthimejahpgihkaaDoor
