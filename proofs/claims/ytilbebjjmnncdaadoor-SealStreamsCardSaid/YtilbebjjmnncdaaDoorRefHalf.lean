/- The walks of the reference's half step and step on sixteen words. -/
import Derived.Test.YtilbebjjmnncdaaDoorRefLeaf
namespace Go.Proofs.YtilbebjjmnncdaaDoor
open Go.RowKit

theorem size16q : (Tryd.prog.info? 108).map (·.size) = some 16 := by kernel_rfl

set_option maxRecDepth 100000 in
set_option maxHeartbeats 1000000 in
theorem rhalf_any (a b d k : Nat) (u : Int) (v : List Wd) (w : World) (ha : a < 16) (hb : b < 16) (hd : d < 16) (hl : v.length = 16) (hk : k < 32) (hu : u = 2 ^ k) :
    Calls Tryd.prog 79 #[.agg (cells64 v), .int .i64 a, .int .i64 b, .int .i64 d, .int .u64 u] w fun e w' =>
      e = .returned (.agg (cells64 (hf v a b d k))) ∧ Below w.heap.size w w' := by
  have ha' : (a : Int) < 16 := by omega
  have hb' : (b : Int) < 16 := by omega
  have hd' : (d : Int) < 16 := by omega
  have HU := Lib.hid hu
  have HL := Lib.hid hl
  clear hu hl
  go_enter Tryd.func79, Tryd.ntmps79
  go_wp2
  have hB : ∀ o, Blk ((w.alloc (.cells (cells64 v) 108)).alloc o) w.heap.size 108 (cells64 v) := fun o => (Blk.new _ _ _).alloc _
  have hB0 := hB (.cells (cells64 (List.replicate 16 0)) 108)
  have hZ0 : Blk ((w.alloc (.cells (cells64 v) 108)).alloc (.cells (cells64 (List.replicate 16 0)) 108)) (w.heap.size + 1) 108 (cells64 (List.replicate 16 0)) := Blk.newAt _ _ _ (by simp)
  have hG0 : Below w.heap.size w ((w.alloc (.cells (cells64 v) 108)).alloc (.cells (cells64 (List.replicate 16 0)) 108)) := ((Below.refl _ _).alloc (Nat.le_refl _) _).alloc (by simp) _
  clear hB
  change Code.wp _ _ _ _ ((w.alloc (.cells (cells64 v) 108)).alloc (.cells (cells64 (List.replicate 16 0)) 108))
  generalize (w.alloc (.cells (cells64 v) 108)).alloc (.cells (cells64 (List.replicate 16 0)) 108) = w1 at *
  have ca := (hB0.cell a).trans (cells64_get v a (by have := HL.out; omega))
  have cb := (hB0.cell b).trans (cells64_get v b (by have := HL.out; omega))
  have fa := hB0.frozen a
  refine wp_region_still_tail 8 (by kernel_rfl) (by kernel_rfl) ?_
  simp only [List.take_succ_cons, List.take_zero, List.drop_succ_cons, List.drop_zero]
  change wpStill _ _ w1.drew _ _ _
  repeat still_step
  still_call (radd_any _ _ _)
  refine wpStill_nil ?_
  change wpList _ _ _ _ _ w1.drew
  go_wp2
  have hB1 : Blk (w1.setCell ⟨w.heap.size, a, none⟩ (.int .u64 (nm (gt v a + gt v b)))).drew w.heap.size 108 (cells64 (v.set a (gt v a + gt v b))) := by rw [← cells64_set]; exact hB0.set_ a _
  have hZ1 : Blk (w1.setCell ⟨w.heap.size, a, none⟩ (.int .u64 (nm (gt v a + gt v b)))).drew (w.heap.size + 1) 108 (cells64 (List.replicate 16 0)) := (hZ0.far (by dsimp only; omega) _).drew
  have hG1 : Below w.heap.size w (w1.setCell ⟨w.heap.size, a, none⟩ (.int .u64 (nm (gt v a + gt v b)))).drew := (hG0.setCell (by dsimp only; omega) _).drew
  generalize (w1.setCell ⟨w.heap.size, a, none⟩ (.int .u64 (nm (gt v a + gt v b)))).drew = w2 at *
  clear ca cb fa hB0 hZ0 hG0
  have hl1 : (v.set a (gt v a + gt v b)).length = 16 := by rw [List.length_set]; exact HL.out
  have hfin : hf v a b d k = (v.set a (gt v a + gt v b)).set d (rl (gt (v.set a (gt v a + gt v b)) d ^^^ gt (v.set a (gt v a + gt v b)) a) k) := rfl
  have HF := Lib.hid hfin
  clear hfin
  obtain ⟨v1, hv1⟩ : ∃ v1, v1 = v.set a (gt v a + gt v b) := ⟨_, rfl⟩
  rw [← hv1] at hB1 hl1 HF
  clear hv1
  have HL1 := Lib.hid hl1
  clear hl1
  have ca := (hB1.cell a).trans (cells64_get v1 a (by have := HL1.out; omega))
  have cd := (hB1.cell d).trans (cells64_get v1 d (by have := HL1.out; omega))
  have fd := hB1.frozen d
  refine wp_region_still_tail 10 (by kernel_rfl) (by kernel_rfl) ?_
  simp only [List.take_succ_cons, List.take_zero, List.drop_succ_cons, List.drop_zero]
  change wpStill _ _ w2.drew _ _ _
  repeat still_step
  still_call (rxor_any (gt v1 d).toNat (gt v1 a).toNat (gt v1 d).isLt (gt v1 a).isLt _)
  rw [show (((gt v1 d).toNat ^^^ (gt v1 a).toNat : Nat) : Int) = nm (gt v1 d ^^^ gt v1 a) from by unfold nm; rw [BitVec.toNat_xor]]
  repeat still_step
  still_call (rturn_any _ k hk u HU.out _)
  refine wpStill_nil ?_
  change wpList _ _ _ _ _ w2.drew
  have HS : Hid ((cells64 (hf v a b d k)).size = 16) := Lib.hid (by rw [cells64_size, hf_len]; exact HL.out)
  have hB2 : Blk (w2.setCell ⟨w.heap.size, d, none⟩ (.int .u64 (nm (rl (gt v1 d ^^^ gt v1 a) k)))).drew w.heap.size 108 (cells64 (hf v a b d k)) := by rw [HF.out, ← cells64_set]; exact hB1.set_ d _
  have hZ2 : Blk (w2.setCell ⟨w.heap.size, d, none⟩ (.int .u64 (nm (rl (gt v1 d ^^^ gt v1 a) k)))).drew (w.heap.size + 1) 108 (cells64 (List.replicate 16 0)) := (hZ1.far (by dsimp only; omega) _).drew
  have hG2 : Below w.heap.size w (w2.setCell ⟨w.heap.size, d, none⟩ (.int .u64 (nm (rl (gt v1 d ^^^ gt v1 a) k)))).drew := (hG1.setCell (by dsimp only; omega) _).drew
  have H2 := Lib.hid hB2
  have H3 := Lib.hid hZ2
  clear hB1 hZ1 hG1 hB2 hZ2
  go_wp2_with (first | (refine wpList_loadB rfl 108 (.tmp 5) rfl w.heap.size rfl H2.out Tryd.underlying108 rfl size16q HS.out ?_) | (refine wpList_storeB rfl 108 (.tmp 10) (.tmp 31) rfl (w.heap.size + 1) _ rfl rfl H3.out size16q HS.out rfl (cells64_one _) ?_))
  refine bodyPost_ret (results_B rfl _ (g := w.heap.size + 1) rfl (H3.out.row _) Tryd.underlying108 rfl size16q HS.out) rfl ⟨rfl, below_row hG2 (by omega) _⟩
set_option maxRecDepth 100000 in
set_option maxHeartbeats 1000000 in
theorem rstep_any (a b c d : Nat) (ia ib ic id : Int) (v : List Wd) (w : World) (ha : a < 16) (hb : b < 16) (hc : c < 16) (hd : d < 16) (hl : v.length = 16)
    (ea : ia = a) (eb : ib = b) (ec : ic = c) (ed : id = d) :
    Calls Tryd.prog 71 #[.agg (cells64 v), .int .i64 ia, .int .i64 ib, .int .i64 ic, .int .i64 id] w fun e w' =>
      e = .returned (.agg (cells64 (qr v a b c d))) ∧ Below w.heap.size w w' := by
  subst ea eb ec ed
  have HF : Hid (qr v a b c d = hf (hf (hf (hf v a b d 16) c d b 12) a b d 8) c d b 7) := Lib.hid rfl
  have HL := Lib.hid hl
  have HS0 : Hid ((cells64 v).size = 16) := Lib.hid (by rw [cells64_size]; exact hl)
  clear hl
  go_enter Tryd.func71, Tryd.ntmps71
  have hB : ∀ o, Blk ((w.alloc (.cells (cells64 v) 108)).alloc o) w.heap.size 108 (cells64 v) := fun o => (Blk.new _ _ _).alloc _
  have H0 := Lib.hid hB
  clear hB
  go_wp2_with (refine wpList_loadB rfl 108 (.tmp 5) rfl w.heap.size rfl (H0.out _) Tryd.underlying108 rfl size16q HS0.out ?_)
  refine (rhalf_any a b d 16 _ v _ (by omega) (by omega) (by omega) HL.out (by omega) rfl).mono ?_
  rintro e w1 ⟨rfl, hb1⟩
  have HA1 : Hid (Blk w1 w.heap.size 108 (cells64 v)) := Lib.hid ((H0.out _).below hb1 (by simp; omega))
  have HZ1 : Hid (∃ zs, Blk w1 (w.heap.size + 1) 108 zs ∧ zs.size = 16) := Lib.hid ⟨_, (Blk.newAt _ _ _ (by simp)).below hb1 (by simp), rfl⟩
  have hG1 : Below w.heap.size w w1 := (((Below.refl _ _).alloc (Nat.le_refl _) _).alloc (by simp) _).trans (hb1.mono (by simp; omega))
  have HL1 : Hid ((hf v a b d 16).length = 16) := Lib.hid (by rw [hf_len]; exact HL.out)
  have HS1 : Hid ((cells64 (hf v a b d 16)).size = 16) := Lib.hid (by rw [cells64_size]; exact HL1.out)
  have HSo1 : Hid ((cells64 v).size = 16) := Lib.hid (by rw [cells64_size]; exact HL.out)
  generalize hf v a b d 16 = v1 at *
  have HB1 : Hid (Blk (w1.setRow w.heap.size (cells64 v1)) w.heap.size 108 (cells64 v1)) := Lib.hid (HA1.out.row _)
  clear hb1
  go_wp2_with (first | (refine wpList_storeB rfl 108 (.tmp 5) (.tmp 15) rfl w.heap.size _ rfl rfl HA1.out size16q HS1.out HSo1.out (cells64_one _) ?_) | (refine wpList_loadB rfl 108 (.tmp 5) rfl w.heap.size rfl HB1.out Tryd.underlying108 rfl size16q HS1.out ?_))
  refine (rhalf_any c d b 12 _ v1 _ (by omega) (by omega) (by omega) HL1.out (by omega) rfl).mono ?_
  rintro e w2 ⟨rfl, hb2⟩
  have HA2 : Hid (Blk w2 w.heap.size 108 (cells64 v1)) := Lib.hid (HB1.out.below hb2 HB1.out.lt)
  have HZ2 : Hid (∃ zs, Blk w2 (w.heap.size + 1) 108 zs ∧ zs.size = 16) := Lib.hid (by
    obtain ⟨zs, h1, h2⟩ := HZ1.out
    have h3 := h1.rowFar (g' := w.heap.size) (by omega) (cells64 v1)
    exact ⟨zs, h3.below hb2 h3.lt, h2⟩)
  have hG2 : Below w.heap.size w w2 := (below_row hG1 (Nat.le_refl _) _).trans (hb2.mono (by rw [setRow_size]; exact hG1.size))
  have HL2 : Hid ((hf v1 c d b 12).length = 16) := Lib.hid (by rw [hf_len]; exact HL1.out)
  have HS2 : Hid ((cells64 (hf v1 c d b 12)).size = 16) := Lib.hid (by rw [cells64_size]; exact HL2.out)
  have HSo2 : Hid ((cells64 v1).size = 16) := Lib.hid (by rw [cells64_size]; exact HL1.out)
  generalize hf v1 c d b 12 = v2 at *
  have HB2 : Hid (Blk (w2.setRow w.heap.size (cells64 v2)) w.heap.size 108 (cells64 v2)) := Lib.hid (HA2.out.row _)
  clear hb2
  go_wp2_with (first | (refine wpList_storeB rfl 108 (.tmp 5) (.tmp 20) rfl w.heap.size _ rfl rfl HA2.out size16q HS2.out HSo2.out (cells64_one _) ?_) | (refine wpList_loadB rfl 108 (.tmp 5) rfl w.heap.size rfl HB2.out Tryd.underlying108 rfl size16q HS2.out ?_))
  refine (rhalf_any a b d 8 _ v2 _ (by omega) (by omega) (by omega) HL2.out (by omega) rfl).mono ?_
  rintro e w3 ⟨rfl, hb3⟩
  have HA3 : Hid (Blk w3 w.heap.size 108 (cells64 v2)) := Lib.hid (HB2.out.below hb3 HB2.out.lt)
  have HZ3 : Hid (∃ zs, Blk w3 (w.heap.size + 1) 108 zs ∧ zs.size = 16) := Lib.hid (by
    obtain ⟨zs, h1, h2⟩ := HZ2.out
    have h3 := h1.rowFar (g' := w.heap.size) (by omega) (cells64 v2)
    exact ⟨zs, h3.below hb3 h3.lt, h2⟩)
  have hG3 : Below w.heap.size w w3 := (below_row hG2 (Nat.le_refl _) _).trans (hb3.mono (by rw [setRow_size]; exact hG2.size))
  have HL3 : Hid ((hf v2 a b d 8).length = 16) := Lib.hid (by rw [hf_len]; exact HL2.out)
  have HS3 : Hid ((cells64 (hf v2 a b d 8)).size = 16) := Lib.hid (by rw [cells64_size]; exact HL3.out)
  have HSo3 : Hid ((cells64 v2).size = 16) := Lib.hid (by rw [cells64_size]; exact HL2.out)
  generalize hf v2 a b d 8 = v3 at *
  have HB3 : Hid (Blk (w3.setRow w.heap.size (cells64 v3)) w.heap.size 108 (cells64 v3)) := Lib.hid (HA3.out.row _)
  clear hb3
  go_wp2_with (first | (refine wpList_storeB rfl 108 (.tmp 5) (.tmp 25) rfl w.heap.size _ rfl rfl HA3.out size16q HS3.out HSo3.out (cells64_one _) ?_) | (refine wpList_loadB rfl 108 (.tmp 5) rfl w.heap.size rfl HB3.out Tryd.underlying108 rfl size16q HS3.out ?_))
  refine (rhalf_any c d b 7 _ v3 _ (by omega) (by omega) (by omega) HL3.out (by omega) rfl).mono ?_
  rintro e w4 ⟨rfl, hb4⟩
  have HA4 : Hid (Blk w4 w.heap.size 108 (cells64 v3)) := Lib.hid (HB3.out.below hb4 HB3.out.lt)
  have HZ4 : Hid (∃ zs, Blk w4 (w.heap.size + 1) 108 zs ∧ zs.size = 16) := Lib.hid (by
    obtain ⟨zs, h1, h2⟩ := HZ3.out
    have h3 := h1.rowFar (g' := w.heap.size) (by omega) (cells64 v3)
    exact ⟨zs, h3.below hb4 h3.lt, h2⟩)
  have hG4 : Below w.heap.size w w4 := (below_row hG3 (Nat.le_refl _) _).trans (hb4.mono (by rw [setRow_size]; exact hG3.size))
  have HL4 : Hid ((hf v3 c d b 7).length = 16) := Lib.hid (by rw [hf_len]; exact HL3.out)
  have HS4 : Hid ((cells64 (hf v3 c d b 7)).size = 16) := Lib.hid (by rw [cells64_size]; exact HL4.out)
  have HSo4 : Hid ((cells64 v3).size = 16) := Lib.hid (by rw [cells64_size]; exact HL3.out)
  generalize hf v3 c d b 7 = v4 at *
  have HB4 : Hid (Blk (w4.setRow w.heap.size (cells64 v4)) w.heap.size 108 (cells64 v4)) := Lib.hid (HA4.out.row _)
  clear hb4
  obtain ⟨zs, hz1, hz2⟩ := HZ4.out
  go_wp2_with (refine wpList_storeB rfl 108 (.tmp 10) (.tmp 30) rfl (w.heap.size + 1) _ rfl rfl hz1 size16q HS4.out hz2 (cells64_one _) ?_)
  rw [HF.out]
  refine bodyPost_ret (results_B rfl _ (g := w.heap.size + 1) rfl (hz1.row _) Tryd.underlying108 rfl size16q HS4.out) rfl ⟨rfl, below_row hG4 (by omega) _⟩
end Go.Proofs.YtilbebjjmnncdaaDoor
