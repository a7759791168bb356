/- The walks of the reference's turning of a word and of its mix of four of sixteen words. Printed by gen_rmix.py. -/
import Derived.Test.YtconhhhggckcbaaDoorBaseB
import Derived.Deep.DeepCutAuto
namespace Go.Proofs.YtconhhhggckcbaaDoor
open Go.RowKit

set_option maxHeartbeats 400000 in
theorem turned_any (x : Wd) (n : Nat) (hn0 : 0 < n) (hn : n < 32) (w : World) :
    Calls Tryd.prog 119 #[.int .u32 (nm x), .int .u64 n] w fun e w' => e = .returned (.int .u32 (nm (rl x (32 - n)))) ∧ w' = w := by
  have H := Lib.hid (nm_rl x (32 - n) (by omega))
  rw [show 32 - (32 - n) = n by omega] at H
  have hor : ∀ a b : Int, bits .or .u32 a b = bits .or .u32 b a := fun a b => by
    show IntKind.u32.wrap _ = IntKind.u32.wrap _
    rw [BitVec.or_comm]
  have e1 : ((32 : Int) - (n : Int)).toNat = 32 - n := by omega
  have HO := Lib.hid hor
  clear hor
  go_enter Tryd.func119, Tryd.ntmps119
  go_wp2
  go_ret
  exact ⟨ret_int (by rw [HO.out]; exact H.out), rfl⟩

attribute [local go_sem] nm_add nm_xor
theorem size16m : (Tryd.prog.info? 148).map (·.size) = some 16 := by kernel_rfl
set_option maxRecDepth 100000 in
set_option maxHeartbeats 2000000 in
theorem rmix_any (a b c d : Nat) (ia ib ic id : Int) (x y : Wd) (v : List Wd) (w : World) (ha : a < 16) (hb : b < 16) (hc : c < 16) (hd : d < 16) (hl : v.length = 16)
    (ea : ia = a) (eb : ib = b) (ec : ic = c) (ed : id = d) :
    Calls Tryd.prog 113 #[.agg (cells v), .int .i64 ia, .int .i64 ib, .int .i64 ic, .int .i64 id, .int .u32 (nm x), .int .u32 (nm y)] w fun e w' =>
      e = .returned (.agg (cells (mixS v a b c d x y))) ∧ Below w.heap.size w w' := by
  subst ea eb ec ed
  obtain ⟨v0, hv0⟩ : ∃ v0 : List Wd, v0 = v := ⟨_, rfl⟩
  have HV := Lib.hid hv0
  clear hv0
  have ha' : (a : Int) < 16 := by omega
  have hb' : (b : Int) < 16 := by omega
  have hc' : (c : Int) < 16 := by omega
  have hd' : (d : Int) < 16 := by omega
  go_enter Tryd.func113, Tryd.ntmps113
  go_wp2
  have hB : Blk ((w.alloc (.cells (cells v) 148)).alloc (.cells (cells (List.replicate 16 0)) 148)) w.heap.size 148 (cells v) := (Blk.new _ _ _).alloc _
  have hZ : Blk ((w.alloc (.cells (cells v) 148)).alloc (.cells (cells (List.replicate 16 0)) 148)) (w.heap.size + 1) 148 (cells (List.replicate 16 0)) := Blk.newAt _ _ _ (by simp)
  have hG : Below w.heap.size w ((w.alloc (.cells (cells v) 148)).alloc (.cells (cells (List.replicate 16 0)) 148)) := ((Below.refl _ _).alloc (Nat.le_refl _) _).alloc (by simp) _
  change Code.wp _ _ _ _ ((w.alloc (.cells (cells v) 148)).alloc (.cells (cells (List.replicate 16 0)) 148))
  generalize (w.alloc (.cells (cells v) 148)).alloc (.cells (cells (List.replicate 16 0)) 148) = wz at *
  obtain ⟨g, hg⟩ : ∃ g, w.heap.size = g := ⟨_, rfl⟩
  rw [hg] at hB hZ hG ⊢
  have HW := Lib.hid hg
  clear hg
  have ci := (hB.cell a).trans (cells_get v a (by omega))
  have cj := (hB.cell b).trans (cells_get v b (by omega))
  have fi := hB.frozen a
  refine wp_region_still_tail 11 (by kernel_rfl) (by kernel_rfl) ?_
  simp only [List.take_succ_cons, List.take_zero, List.drop_succ_cons, List.drop_zero]
  change wpStill _ _ wz.drew _ _ _
  repeat still_step
  refine wpStill_nil ?_
  change wpList _ _ _ _ _ wz.drew
  go_wp2
  have hB1 : Blk (wz.setCell ⟨g, a, none⟩ (.int .u32 (nm (gt v a + gt v b + x)))).drew g 148 (cells (v.set a (gt v a + gt v b + x))) := by rw [← cells_set]; exact hB.set_ a _
  have hZ1 : Blk (wz.setCell ⟨g, a, none⟩ (.int .u32 (nm (gt v a + gt v b + x)))).drew (g + 1) 148 (cells (List.replicate 16 0)) := (hZ.far (by dsimp only; omega) _).drew
  have hG1 : Below g w (wz.setCell ⟨g, a, none⟩ (.int .u32 (nm (gt v a + gt v b + x)))).drew := (hG.setCell (by dsimp only; omega) _).drew
  have hl1 : (v.set a (gt v a + gt v b + x)).length = 16 := by rw [List.length_set]; exact hl
  obtain ⟨v1, hv1⟩ : ∃ v1 : List Wd, v1 = v.set a (gt v a + gt v b + x) := ⟨_, rfl⟩
  rw [← hv1] at hB1 hl1
  have HV1 := Lib.hid hv1
  generalize (wz.setCell ⟨g, a, none⟩ (.int .u32 (nm (gt v a + gt v b + x)))).drew = w1 at *
  clear ci cj fi hv1 hB hG hZ
  have ci := (hB1.cell d).trans (cells_get v1 d (by omega))
  have cj := (hB1.cell a).trans (cells_get v1 a (by omega))
  have fi := hB1.frozen d
  refine wp_region_still_tail 10 (by kernel_rfl) (by kernel_rfl) ?_
  simp only [List.take_succ_cons, List.take_zero, List.drop_succ_cons, List.drop_zero]
  change wpStill _ _ w1.drew _ _ _
  repeat still_step
  still_call (turned_any _ 16 (by omega) (by omega) _)
  repeat still_step
  refine wpStill_nil ?_
  change wpList _ _ _ _ _ w1.drew
  go_wp2
  have hB2 : Blk (w1.setCell ⟨g, d, none⟩ (.int .u32 (nm (rl (gt v1 d ^^^ gt v1 a) 16)))).drew g 148 (cells (v1.set d (rl (gt v1 d ^^^ gt v1 a) 16))) := by rw [← cells_set]; exact hB1.set_ d _
  have hZ2 : Blk (w1.setCell ⟨g, d, none⟩ (.int .u32 (nm (rl (gt v1 d ^^^ gt v1 a) 16)))).drew (g + 1) 148 (cells (List.replicate 16 0)) := (hZ1.far (by dsimp only; omega) _).drew
  have hG2 : Below g w (w1.setCell ⟨g, d, none⟩ (.int .u32 (nm (rl (gt v1 d ^^^ gt v1 a) 16)))).drew := (hG1.setCell (by dsimp only; omega) _).drew
  have hl2 : (v1.set d (rl (gt v1 d ^^^ gt v1 a) 16)).length = 16 := by rw [List.length_set]; exact hl1
  obtain ⟨v2, hv2⟩ : ∃ v2 : List Wd, v2 = v1.set d (rl (gt v1 d ^^^ gt v1 a) 16) := ⟨_, rfl⟩
  rw [← hv2] at hB2 hl2
  have HV2 := Lib.hid hv2
  generalize (w1.setCell ⟨g, d, none⟩ (.int .u32 (nm (rl (gt v1 d ^^^ gt v1 a) 16)))).drew = w2 at *
  clear ci cj fi hv2 hB1 hG1 hZ1
  have ci := (hB2.cell c).trans (cells_get v2 c (by omega))
  have cj := (hB2.cell d).trans (cells_get v2 d (by omega))
  have fi := hB2.frozen c
  refine wp_region_still_tail 9 (by kernel_rfl) (by kernel_rfl) ?_
  simp only [List.take_succ_cons, List.take_zero, List.drop_succ_cons, List.drop_zero]
  change wpStill _ _ w2.drew _ _ _
  repeat still_step
  refine wpStill_nil ?_
  change wpList _ _ _ _ _ w2.drew
  go_wp2
  have hB3 : Blk (w2.setCell ⟨g, c, none⟩ (.int .u32 (nm (gt v2 c + gt v2 d)))).drew g 148 (cells (v2.set c (gt v2 c + gt v2 d))) := by rw [← cells_set]; exact hB2.set_ c _
  have hZ3 : Blk (w2.setCell ⟨g, c, none⟩ (.int .u32 (nm (gt v2 c + gt v2 d)))).drew (g + 1) 148 (cells (List.replicate 16 0)) := (hZ2.far (by dsimp only; omega) _).drew
  have hG3 : Below g w (w2.setCell ⟨g, c, none⟩ (.int .u32 (nm (gt v2 c + gt v2 d)))).drew := (hG2.setCell (by dsimp only; omega) _).drew
  have hl3 : (v2.set c (gt v2 c + gt v2 d)).length = 16 := by rw [List.length_set]; exact hl2
  obtain ⟨v3, hv3⟩ : ∃ v3 : List Wd, v3 = v2.set c (gt v2 c + gt v2 d) := ⟨_, rfl⟩
  rw [← hv3] at hB3 hl3
  have HV3 := Lib.hid hv3
  generalize (w2.setCell ⟨g, c, none⟩ (.int .u32 (nm (gt v2 c + gt v2 d)))).drew = w3 at *
  clear ci cj fi hv3 hB2 hG2 hZ2
  have ci := (hB3.cell b).trans (cells_get v3 b (by omega))
  have cj := (hB3.cell c).trans (cells_get v3 c (by omega))
  have fi := hB3.frozen b
  refine wp_region_still_tail 10 (by kernel_rfl) (by kernel_rfl) ?_
  simp only [List.take_succ_cons, List.take_zero, List.drop_succ_cons, List.drop_zero]
  change wpStill _ _ w3.drew _ _ _
  repeat still_step
  still_call (turned_any _ 12 (by omega) (by omega) _)
  repeat still_step
  refine wpStill_nil ?_
  change wpList _ _ _ _ _ w3.drew
  go_wp2
  have hB4 : Blk (w3.setCell ⟨g, b, none⟩ (.int .u32 (nm (rl (gt v3 b ^^^ gt v3 c) 20)))).drew g 148 (cells (v3.set b (rl (gt v3 b ^^^ gt v3 c) 20))) := by rw [← cells_set]; exact hB3.set_ b _
  have hZ4 : Blk (w3.setCell ⟨g, b, none⟩ (.int .u32 (nm (rl (gt v3 b ^^^ gt v3 c) 20)))).drew (g + 1) 148 (cells (List.replicate 16 0)) := (hZ3.far (by dsimp only; omega) _).drew
  have hG4 : Below g w (w3.setCell ⟨g, b, none⟩ (.int .u32 (nm (rl (gt v3 b ^^^ gt v3 c) 20)))).drew := (hG3.setCell (by dsimp only; omega) _).drew
  have hl4 : (v3.set b (rl (gt v3 b ^^^ gt v3 c) 20)).length = 16 := by rw [List.length_set]; exact hl3
  obtain ⟨v4, hv4⟩ : ∃ v4 : List Wd, v4 = v3.set b (rl (gt v3 b ^^^ gt v3 c) 20) := ⟨_, rfl⟩
  rw [← hv4] at hB4 hl4
  have HV4 := Lib.hid hv4
  generalize (w3.setCell ⟨g, b, none⟩ (.int .u32 (nm (rl (gt v3 b ^^^ gt v3 c) 20)))).drew = w4 at *
  clear ci cj fi hv4 hB3 hG3 hZ3
  have ci := (hB4.cell a).trans (cells_get v4 a (by omega))
  have cj := (hB4.cell b).trans (cells_get v4 b (by omega))
  have fi := hB4.frozen a
  refine wp_region_still_tail 11 (by kernel_rfl) (by kernel_rfl) ?_
  simp only [List.take_succ_cons, List.take_zero, List.drop_succ_cons, List.drop_zero]
  change wpStill _ _ w4.drew _ _ _
  repeat still_step
  refine wpStill_nil ?_
  change wpList _ _ _ _ _ w4.drew
  go_wp2
  have hB5 : Blk (w4.setCell ⟨g, a, none⟩ (.int .u32 (nm (gt v4 a + gt v4 b + y)))).drew g 148 (cells (v4.set a (gt v4 a + gt v4 b + y))) := by rw [← cells_set]; exact hB4.set_ a _
  have hZ5 : Blk (w4.setCell ⟨g, a, none⟩ (.int .u32 (nm (gt v4 a + gt v4 b + y)))).drew (g + 1) 148 (cells (List.replicate 16 0)) := (hZ4.far (by dsimp only; omega) _).drew
  have hG5 : Below g w (w4.setCell ⟨g, a, none⟩ (.int .u32 (nm (gt v4 a + gt v4 b + y)))).drew := (hG4.setCell (by dsimp only; omega) _).drew
  have hl5 : (v4.set a (gt v4 a + gt v4 b + y)).length = 16 := by rw [List.length_set]; exact hl4
  obtain ⟨v5, hv5⟩ : ∃ v5 : List Wd, v5 = v4.set a (gt v4 a + gt v4 b + y) := ⟨_, rfl⟩
  rw [← hv5] at hB5 hl5
  have HV5 := Lib.hid hv5
  generalize (w4.setCell ⟨g, a, none⟩ (.int .u32 (nm (gt v4 a + gt v4 b + y)))).drew = w5 at *
  clear ci cj fi hv5 hB4 hG4 hZ4
  have ci := (hB5.cell d).trans (cells_get v5 d (by omega))
  have cj := (hB5.cell a).trans (cells_get v5 a (by omega))
  have fi := hB5.frozen d
  refine wp_region_still_tail 10 (by kernel_rfl) (by kernel_rfl) ?_
  simp only [List.take_succ_cons, List.take_zero, List.drop_succ_cons, List.drop_zero]
  change wpStill _ _ w5.drew _ _ _
  repeat still_step
  still_call (turned_any _ 8 (by omega) (by omega) _)
  repeat still_step
  refine wpStill_nil ?_
  change wpList _ _ _ _ _ w5.drew
  go_wp2
  have hB6 : Blk (w5.setCell ⟨g, d, none⟩ (.int .u32 (nm (rl (gt v5 d ^^^ gt v5 a) 24)))).drew g 148 (cells (v5.set d (rl (gt v5 d ^^^ gt v5 a) 24))) := by rw [← cells_set]; exact hB5.set_ d _
  have hZ6 : Blk (w5.setCell ⟨g, d, none⟩ (.int .u32 (nm (rl (gt v5 d ^^^ gt v5 a) 24)))).drew (g + 1) 148 (cells (List.replicate 16 0)) := (hZ5.far (by dsimp only; omega) _).drew
  have hG6 : Below g w (w5.setCell ⟨g, d, none⟩ (.int .u32 (nm (rl (gt v5 d ^^^ gt v5 a) 24)))).drew := (hG5.setCell (by dsimp only; omega) _).drew
  have hl6 : (v5.set d (rl (gt v5 d ^^^ gt v5 a) 24)).length = 16 := by rw [List.length_set]; exact hl5
  obtain ⟨v6, hv6⟩ : ∃ v6 : List Wd, v6 = v5.set d (rl (gt v5 d ^^^ gt v5 a) 24) := ⟨_, rfl⟩
  rw [← hv6] at hB6 hl6
  have HV6 := Lib.hid hv6
  generalize (w5.setCell ⟨g, d, none⟩ (.int .u32 (nm (rl (gt v5 d ^^^ gt v5 a) 24)))).drew = w6 at *
  clear ci cj fi hv6 hB5 hG5 hZ5
  have ci := (hB6.cell c).trans (cells_get v6 c (by omega))
  have cj := (hB6.cell d).trans (cells_get v6 d (by omega))
  have fi := hB6.frozen c
  refine wp_region_still_tail 9 (by kernel_rfl) (by kernel_rfl) ?_
  simp only [List.take_succ_cons, List.take_zero, List.drop_succ_cons, List.drop_zero]
  change wpStill _ _ w6.drew _ _ _
  repeat still_step
  refine wpStill_nil ?_
  change wpList _ _ _ _ _ w6.drew
  go_wp2
  have hB7 : Blk (w6.setCell ⟨g, c, none⟩ (.int .u32 (nm (gt v6 c + gt v6 d)))).drew g 148 (cells (v6.set c (gt v6 c + gt v6 d))) := by rw [← cells_set]; exact hB6.set_ c _
  have hZ7 : Blk (w6.setCell ⟨g, c, none⟩ (.int .u32 (nm (gt v6 c + gt v6 d)))).drew (g + 1) 148 (cells (List.replicate 16 0)) := (hZ6.far (by dsimp only; omega) _).drew
  have hG7 : Below g w (w6.setCell ⟨g, c, none⟩ (.int .u32 (nm (gt v6 c + gt v6 d)))).drew := (hG6.setCell (by dsimp only; omega) _).drew
  have hl7 : (v6.set c (gt v6 c + gt v6 d)).length = 16 := by rw [List.length_set]; exact hl6
  obtain ⟨v7, hv7⟩ : ∃ v7 : List Wd, v7 = v6.set c (gt v6 c + gt v6 d) := ⟨_, rfl⟩
  rw [← hv7] at hB7 hl7
  have HV7 := Lib.hid hv7
  generalize (w6.setCell ⟨g, c, none⟩ (.int .u32 (nm (gt v6 c + gt v6 d)))).drew = w7 at *
  clear ci cj fi hv7 hB6 hG6 hZ6
  have ci := (hB7.cell b).trans (cells_get v7 b (by omega))
  have cj := (hB7.cell c).trans (cells_get v7 c (by omega))
  have fi := hB7.frozen b
  refine wp_region_still_tail 10 (by kernel_rfl) (by kernel_rfl) ?_
  simp only [List.take_succ_cons, List.take_zero, List.drop_succ_cons, List.drop_zero]
  change wpStill _ _ w7.drew _ _ _
  repeat still_step
  still_call (turned_any _ 7 (by omega) (by omega) _)
  repeat still_step
  refine wpStill_nil ?_
  change wpList _ _ _ _ _ w7.drew
  go_upto_region 9 with (fail)
  have hB8 : Blk (w7.setCell ⟨g, b, none⟩ (.int .u32 (nm (rl (gt v7 b ^^^ gt v7 c) 25)))).drew g 148 (cells (v7.set b (rl (gt v7 b ^^^ gt v7 c) 25))) := by rw [← cells_set]; exact hB7.set_ b _
  have hZ8 : Blk (w7.setCell ⟨g, b, none⟩ (.int .u32 (nm (rl (gt v7 b ^^^ gt v7 c) 25)))).drew (g + 1) 148 (cells (List.replicate 16 0)) := (hZ7.far (by dsimp only; omega) _).drew
  have hG8 : Below g w (w7.setCell ⟨g, b, none⟩ (.int .u32 (nm (rl (gt v7 b ^^^ gt v7 c) 25)))).drew := (hG7.setCell (by dsimp only; omega) _).drew
  have hl8 : (v7.set b (rl (gt v7 b ^^^ gt v7 c) 25)).length = 16 := by rw [List.length_set]; exact hl7
  obtain ⟨v8, hv8⟩ : ∃ v8 : List Wd, v8 = v7.set b (rl (gt v7 b ^^^ gt v7 c) 25) := ⟨_, rfl⟩
  rw [← hv8] at hB8 hl8
  have HV8 := Lib.hid hv8
  generalize (w7.setCell ⟨g, b, none⟩ (.int .u32 (nm (rl (gt v7 b ^^^ gt v7 c) 25)))).drew = w8 at *
  clear ci cj fi hv8 hB7 hG7 hZ7
  have HS : Hid ((cells v8).size = 16) := Lib.hid (by rw [cells_size]; exact hl8)
  have HZS : Hid ((cells (List.replicate 16 0)).size = 16) := Lib.hid (by rw [cells_size, List.length_replicate])
  have e : mixS v0 a b c d x y = v8 := by
    rw [HV8.out, HV7.out, HV6.out, HV5.out, HV4.out, HV3.out, HV2.out, HV1.out, HV.out]
    simp only [BitVec.add_assoc]; rfl
  have e1 : v0 = v := HV.out
  rw [e1] at e
  have HE := Lib.hid e
  clear e e1
  go_wp2_with (first | (refine wpList_loadB (cs := cells v8) rfl 148 (.tmp 7) rfl g rfl hB8 Tryd.underlying148 rfl size16m HS.out ?_) | (refine wpList_storeB rfl 148 (.tmp 14) (.tmp 95) rfl (g + 1) (cells v8) rfl rfl hZ8 size16m HS.out HZS.out (cells_one _) ?_))
  refine bodyPost_ret (results_B rfl _ (g := g + 1) rfl (hZ8.row _) Tryd.underlying148 rfl size16m HS.out) rfl ⟨by rw [HE.out], by rw [HW.out]; exact below_row hG8 (by omega) _⟩
end Go.Proofs.YtconhhhggckcbaaDoor
