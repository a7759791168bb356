/- The walk of BLAKE2s' mix through a pointer to sixteen words: they are, behind the call, the words of 'mixS'; nothing else that was there has changed. Printed by gen_mix.py. -/
import Derived.Test.YtilbebjjmnncdaaDoorRotn
import Derived.Test.YtilbebjjmnncdaaDoorBlake
namespace Go.Proofs.YtilbebjjmnncdaaDoor
open Go.RowKit
attribute [local go_sem] nm_add nm_xor

set_option maxRecDepth 100000 in
set_option maxHeartbeats 2000000 in
theorem mix_any (g a b c d : Nat) (x y : Wd) (v : List Wd) (w : World) (ha : a < 16) (hb : b < 16) (hc : c < 16) (hd : d < 16) (hl : v.length = 16)
    (hB : Blk w g 104 (cells v)) :
    Calls Tryd.prog 74 #[.pointer (some ⟨g, 0, none⟩), .int .i64 a, .int .i64 b, .int .i64 c, .int .i64 d, .int .u32 (nm x), .int .u32 (nm y)] w fun e w' =>
      e = .returned (.tuple #[]) ∧ Blk w' g 104 (cells (mixS v a b c d x y)) ∧ w.grownBy w' (some g) := by
  obtain ⟨w0, hw0⟩ : ∃ w0 : World, w0 = w := ⟨_, rfl⟩
  have hG : w0.grownBy w (some g) := by rw [hw0]; exact grown_refl _ _
  obtain ⟨v0, hv0⟩ : ∃ v0 : List Wd, v0 = v := ⟨_, rfl⟩
  have HV := Lib.hid hv0
  have HW := Lib.hid hw0
  clear hv0 hw0
  have ha' : (a : Int) < 16 := by omega
  have hb' : (b : Int) < 16 := by omega
  have hc' : (c : Int) < 16 := by omega
  have hd' : (d : Int) < 16 := by omega
  go_enter Tryd.func74, Tryd.ntmps74
  go_wp2

  have ci := (hB.cell a).trans (cells_get v a (by omega))
  have cj := (hB.cell b).trans (cells_get v b (by omega))
  have fi := hB.frozen a
  refine wp_region_still_tail 14 (by kernel_rfl) (by kernel_rfl) ?_
  simp only [List.take_succ_cons, List.take_zero, List.drop_succ_cons, List.drop_zero]
  change wpStill _ _ w.drew _ _ _
  repeat still_step
  refine wpStill_nil ?_
  change wpList _ _ _ _ _ w.drew
  go_wp2
  have hB1 : Blk (w.setCell ⟨g, a, none⟩ (.int .u32 (nm (gt v a + (gt v b + x))))).drew g 104 (cells (v.set a (gt v a + (gt v b + x)))) := by rw [← cells_set]; exact hB.set_ a _
  have hG1 : w0.grownBy (w.setCell ⟨g, a, none⟩ (.int .u32 (nm (gt v a + (gt v b + x))))).drew (some g) := grown_drew (grown_set hG _ _)
  have hl1 : (v.set a (gt v a + (gt v b + x))).length = 16 := by rw [List.length_set]; exact hl
  obtain ⟨v1, hv1⟩ : ∃ v1 : List Wd, v1 = v.set a (gt v a + (gt v b + x)) := ⟨_, rfl⟩
  rw [← hv1] at hB1 hl1
  have HV1 := Lib.hid hv1
  generalize (w.setCell ⟨g, a, none⟩ (.int .u32 (nm (gt v a + (gt v b + x))))).drew = w1 at *
  clear ci cj fi hv1 hB hG
  have ci := (hB1.cell d).trans (cells_get v1 d (by omega))
  have cj := (hB1.cell a).trans (cells_get v1 a (by omega))
  have fi := hB1.frozen d
  refine wp_region_still_tail 15 (by kernel_rfl) (by kernel_rfl) ?_
  simp only [List.take_succ_cons, List.take_zero, List.drop_succ_cons, List.drop_zero]
  change wpStill _ _ w1.drew _ _ _
  repeat still_step
  still_call (rotz_any _ (-16) 16 (by omega) (by omega) (by decide) _)
  repeat still_step
  refine wpStill_nil ?_
  change wpList _ _ _ _ _ w1.drew
  go_wp2
  have hB2 : Blk (w1.setCell ⟨g, d, none⟩ (.int .u32 (nm (rl (gt v1 d ^^^ gt v1 a) 16)))).drew g 104 (cells (v1.set d (rl (gt v1 d ^^^ gt v1 a) 16))) := by rw [← cells_set]; exact hB1.set_ d _
  have hG2 : w0.grownBy (w1.setCell ⟨g, d, none⟩ (.int .u32 (nm (rl (gt v1 d ^^^ gt v1 a) 16)))).drew (some g) := grown_drew (grown_set hG1 _ _)
  have hl2 : (v1.set d (rl (gt v1 d ^^^ gt v1 a) 16)).length = 16 := by rw [List.length_set]; exact hl1
  obtain ⟨v2, hv2⟩ : ∃ v2 : List Wd, v2 = v1.set d (rl (gt v1 d ^^^ gt v1 a) 16) := ⟨_, rfl⟩
  rw [← hv2] at hB2 hl2
  have HV2 := Lib.hid hv2
  generalize (w1.setCell ⟨g, d, none⟩ (.int .u32 (nm (rl (gt v1 d ^^^ gt v1 a) 16)))).drew = w2 at *
  clear ci cj fi hv2 hB1 hG1
  have ci := (hB2.cell c).trans (cells_get v2 c (by omega))
  have cj := (hB2.cell d).trans (cells_get v2 d (by omega))
  have fi := hB2.frozen c
  refine wp_region_still_tail 12 (by kernel_rfl) (by kernel_rfl) ?_
  simp only [List.take_succ_cons, List.take_zero, List.drop_succ_cons, List.drop_zero]
  change wpStill _ _ w2.drew _ _ _
  repeat still_step
  refine wpStill_nil ?_
  change wpList _ _ _ _ _ w2.drew
  go_wp2
  have hB3 : Blk (w2.setCell ⟨g, c, none⟩ (.int .u32 (nm (gt v2 c + gt v2 d)))).drew g 104 (cells (v2.set c (gt v2 c + gt v2 d))) := by rw [← cells_set]; exact hB2.set_ c _
  have hG3 : w0.grownBy (w2.setCell ⟨g, c, none⟩ (.int .u32 (nm (gt v2 c + gt v2 d)))).drew (some g) := grown_drew (grown_set hG2 _ _)
  have hl3 : (v2.set c (gt v2 c + gt v2 d)).length = 16 := by rw [List.length_set]; exact hl2
  obtain ⟨v3, hv3⟩ : ∃ v3 : List Wd, v3 = v2.set c (gt v2 c + gt v2 d) := ⟨_, rfl⟩
  rw [← hv3] at hB3 hl3
  have HV3 := Lib.hid hv3
  generalize (w2.setCell ⟨g, c, none⟩ (.int .u32 (nm (gt v2 c + gt v2 d)))).drew = w3 at *
  clear ci cj fi hv3 hB2 hG2
  have ci := (hB3.cell b).trans (cells_get v3 b (by omega))
  have cj := (hB3.cell c).trans (cells_get v3 c (by omega))
  have fi := hB3.frozen b
  refine wp_region_still_tail 15 (by kernel_rfl) (by kernel_rfl) ?_
  simp only [List.take_succ_cons, List.take_zero, List.drop_succ_cons, List.drop_zero]
  change wpStill _ _ w3.drew _ _ _
  repeat still_step
  still_call (rotz_any _ (-12) 20 (by omega) (by omega) (by decide) _)
  repeat still_step
  refine wpStill_nil ?_
  change wpList _ _ _ _ _ w3.drew
  go_wp2
  have hB4 : Blk (w3.setCell ⟨g, b, none⟩ (.int .u32 (nm (rl (gt v3 b ^^^ gt v3 c) 20)))).drew g 104 (cells (v3.set b (rl (gt v3 b ^^^ gt v3 c) 20))) := by rw [← cells_set]; exact hB3.set_ b _
  have hG4 : w0.grownBy (w3.setCell ⟨g, b, none⟩ (.int .u32 (nm (rl (gt v3 b ^^^ gt v3 c) 20)))).drew (some g) := grown_drew (grown_set hG3 _ _)
  have hl4 : (v3.set b (rl (gt v3 b ^^^ gt v3 c) 20)).length = 16 := by rw [List.length_set]; exact hl3
  obtain ⟨v4, hv4⟩ : ∃ v4 : List Wd, v4 = v3.set b (rl (gt v3 b ^^^ gt v3 c) 20) := ⟨_, rfl⟩
  rw [← hv4] at hB4 hl4
  have HV4 := Lib.hid hv4
  generalize (w3.setCell ⟨g, b, none⟩ (.int .u32 (nm (rl (gt v3 b ^^^ gt v3 c) 20)))).drew = w4 at *
  clear ci cj fi hv4 hB3 hG3
  have ci := (hB4.cell a).trans (cells_get v4 a (by omega))
  have cj := (hB4.cell b).trans (cells_get v4 b (by omega))
  have fi := hB4.frozen a
  refine wp_region_still_tail 14 (by kernel_rfl) (by kernel_rfl) ?_
  simp only [List.take_succ_cons, List.take_zero, List.drop_succ_cons, List.drop_zero]
  change wpStill _ _ w4.drew _ _ _
  repeat still_step
  refine wpStill_nil ?_
  change wpList _ _ _ _ _ w4.drew
  go_wp2
  have hB5 : Blk (w4.setCell ⟨g, a, none⟩ (.int .u32 (nm (gt v4 a + (gt v4 b + y))))).drew g 104 (cells (v4.set a (gt v4 a + (gt v4 b + y)))) := by rw [← cells_set]; exact hB4.set_ a _
  have hG5 : w0.grownBy (w4.setCell ⟨g, a, none⟩ (.int .u32 (nm (gt v4 a + (gt v4 b + y))))).drew (some g) := grown_drew (grown_set hG4 _ _)
  have hl5 : (v4.set a (gt v4 a + (gt v4 b + y))).length = 16 := by rw [List.length_set]; exact hl4
  obtain ⟨v5, hv5⟩ : ∃ v5 : List Wd, v5 = v4.set a (gt v4 a + (gt v4 b + y)) := ⟨_, rfl⟩
  rw [← hv5] at hB5 hl5
  have HV5 := Lib.hid hv5
  generalize (w4.setCell ⟨g, a, none⟩ (.int .u32 (nm (gt v4 a + (gt v4 b + y))))).drew = w5 at *
  clear ci cj fi hv5 hB4 hG4
  have ci := (hB5.cell d).trans (cells_get v5 d (by omega))
  have cj := (hB5.cell a).trans (cells_get v5 a (by omega))
  have fi := hB5.frozen d
  refine wp_region_still_tail 15 (by kernel_rfl) (by kernel_rfl) ?_
  simp only [List.take_succ_cons, List.take_zero, List.drop_succ_cons, List.drop_zero]
  change wpStill _ _ w5.drew _ _ _
  repeat still_step
  still_call (rotz_any _ (-8) 24 (by omega) (by omega) (by decide) _)
  repeat still_step
  refine wpStill_nil ?_
  change wpList _ _ _ _ _ w5.drew
  go_wp2
  have hB6 : Blk (w5.setCell ⟨g, d, none⟩ (.int .u32 (nm (rl (gt v5 d ^^^ gt v5 a) 24)))).drew g 104 (cells (v5.set d (rl (gt v5 d ^^^ gt v5 a) 24))) := by rw [← cells_set]; exact hB5.set_ d _
  have hG6 : w0.grownBy (w5.setCell ⟨g, d, none⟩ (.int .u32 (nm (rl (gt v5 d ^^^ gt v5 a) 24)))).drew (some g) := grown_drew (grown_set hG5 _ _)
  have hl6 : (v5.set d (rl (gt v5 d ^^^ gt v5 a) 24)).length = 16 := by rw [List.length_set]; exact hl5
  obtain ⟨v6, hv6⟩ : ∃ v6 : List Wd, v6 = v5.set d (rl (gt v5 d ^^^ gt v5 a) 24) := ⟨_, rfl⟩
  rw [← hv6] at hB6 hl6
  have HV6 := Lib.hid hv6
  generalize (w5.setCell ⟨g, d, none⟩ (.int .u32 (nm (rl (gt v5 d ^^^ gt v5 a) 24)))).drew = w6 at *
  clear ci cj fi hv6 hB5 hG5
  have ci := (hB6.cell c).trans (cells_get v6 c (by omega))
  have cj := (hB6.cell d).trans (cells_get v6 d (by omega))
  have fi := hB6.frozen c
  refine wp_region_still_tail 12 (by kernel_rfl) (by kernel_rfl) ?_
  simp only [List.take_succ_cons, List.take_zero, List.drop_succ_cons, List.drop_zero]
  change wpStill _ _ w6.drew _ _ _
  repeat still_step
  refine wpStill_nil ?_
  change wpList _ _ _ _ _ w6.drew
  go_wp2
  have hB7 : Blk (w6.setCell ⟨g, c, none⟩ (.int .u32 (nm (gt v6 c + gt v6 d)))).drew g 104 (cells (v6.set c (gt v6 c + gt v6 d))) := by rw [← cells_set]; exact hB6.set_ c _
  have hG7 : w0.grownBy (w6.setCell ⟨g, c, none⟩ (.int .u32 (nm (gt v6 c + gt v6 d)))).drew (some g) := grown_drew (grown_set hG6 _ _)
  have hl7 : (v6.set c (gt v6 c + gt v6 d)).length = 16 := by rw [List.length_set]; exact hl6
  obtain ⟨v7, hv7⟩ : ∃ v7 : List Wd, v7 = v6.set c (gt v6 c + gt v6 d) := ⟨_, rfl⟩
  rw [← hv7] at hB7 hl7
  have HV7 := Lib.hid hv7
  generalize (w6.setCell ⟨g, c, none⟩ (.int .u32 (nm (gt v6 c + gt v6 d)))).drew = w7 at *
  clear ci cj fi hv7 hB6 hG6
  have ci := (hB7.cell b).trans (cells_get v7 b (by omega))
  have cj := (hB7.cell c).trans (cells_get v7 c (by omega))
  have fi := hB7.frozen b
  refine wp_region_still_tail 15 (by kernel_rfl) (by kernel_rfl) ?_
  simp only [List.take_succ_cons, List.take_zero, List.drop_succ_cons, List.drop_zero]
  change wpStill _ _ w7.drew _ _ _
  repeat still_step
  still_call (rotz_any _ (-7) 25 (by omega) (by omega) (by decide) _)
  repeat still_step
  refine wpStill_nil ?_
  change wpList _ _ _ _ _ w7.drew
  go_wp2
  have hB8 : Blk (w7.setCell ⟨g, b, none⟩ (.int .u32 (nm (rl (gt v7 b ^^^ gt v7 c) 25)))).drew g 104 (cells (v7.set b (rl (gt v7 b ^^^ gt v7 c) 25))) := by rw [← cells_set]; exact hB7.set_ b _
  have hG8 : w0.grownBy (w7.setCell ⟨g, b, none⟩ (.int .u32 (nm (rl (gt v7 b ^^^ gt v7 c) 25)))).drew (some g) := grown_drew (grown_set hG7 _ _)
  have hl8 : (v7.set b (rl (gt v7 b ^^^ gt v7 c) 25)).length = 16 := by rw [List.length_set]; exact hl7
  obtain ⟨v8, hv8⟩ : ∃ v8 : List Wd, v8 = v7.set b (rl (gt v7 b ^^^ gt v7 c) 25) := ⟨_, rfl⟩
  rw [← hv8] at hB8 hl8
  have HV8 := Lib.hid hv8
  generalize (w7.setCell ⟨g, b, none⟩ (.int .u32 (nm (rl (gt v7 b ^^^ gt v7 c) 25)))).drew = w8 at *
  clear ci cj fi hv8 hB7 hG7
  go_end0
  have e : mixS v0 a b c d x y = v8 := by
    rw [HV8.out, HV7.out, HV6.out, HV5.out, HV4.out, HV3.out, HV2.out, HV1.out, HV.out]; rfl
  have e0 : w0 = w := HW.out
  subst e0
  have e1 : v0 = v := HV.out
  subst e1
  rw [e]
  exact ⟨rfl, hB8, hG8⟩
end Go.Proofs.YtilbebjjmnncdaaDoor
