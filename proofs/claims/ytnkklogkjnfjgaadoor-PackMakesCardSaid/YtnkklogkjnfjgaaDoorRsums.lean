/- The walk of the reference's Sum (layer 2). -/
import Derived.Test.YtnkklogkjnfjgaaDoorRsumB
import Derived.Test.YtnkklogkjnfjgaaDoorEndB
import Derived.Test.YtnkklogkjnfjgaaDoorBaseB
namespace Go.Proofs.YtnkklogkjnfjgaaDoor
open Go.RowKit

set_option maxRecDepth 100000 in
set_option maxHeartbeats 1000000 in
theorem rsum_any (l : List (List UInt8)) (v : Value) (w : World) (hS : Strs w v l) (hl : l.flatten.length < 2 ^ 46) (hn : l.length < 2 ^ 60) :
    Calls Tryd.prog 51 #[v] w fun e w' => e = .returned (.agg (cells8 (sumS l.flatten))) ∧ Below w.heap.size w w' := by
  have HS := Lib.hid hS
  clear hS
  go_enter Tryd.func51, Tryd.ntmps51
  go_upto_region 1 with (fail)
  change Code.wp _ _ _ _ (w.alloc (.cells (cells8 (List.replicate 32 0)) 37))
  have hR : Blk (w.alloc (.cells (cells8 (List.replicate 32 0)) 37)) w.heap.size 37 (cells8 (List.replicate 32 0)) := Blk.new _ _ _
  have hb : Below w.heap.size w (w.alloc (.cells (cells8 (List.replicate 32 0)) 37)) := (Below.refl _ _).alloc (Nat.le_refl _) _
  generalize w.alloc (.cells (cells8 (List.replicate 32 0)) 37) = w1 at *
  go_wp2_with fail
  refine (eight_any _).mono ?_
  rintro e w2 ⟨rfl, hb2⟩
  obtain ⟨E, hE⟩ : ∃ E, eightV = E := ⟨_, rfl⟩
  have HES : Hid ((cells E).size = 8) := Lib.hid (by rw [← hE]; rfl)
  have HEL : Hid (E.length = 8) := Lib.hid (by rw [← hE]; rfl)
  rw [hE]
  have HE := Lib.hid hE
  clear hE
  go_upto_region 2 with (refine wpList_storeNew rfl 62 (.tmp 3) (.tmp 4) rfl w2 w2.heap.size rfl rfl (cells E) rfl rfl sz8 HES.out rfl (cells_one _) ?_)
  simp only [Act.put]
  have hg0 : w.heap.size < w2.heap.size := Nat.lt_of_lt_of_le hR.lt hb2.size
  have hF : Blk (w2.alloc (.cells (cells E) 62)) w2.heap.size 62 (cells E) := Blk.new _ _ _
  have hR3 : Blk (w2.alloc (.cells (cells E) 62)) w.heap.size 37 (cells8 (List.replicate 32 0)) := (hR.below hb2 hR.lt).alloc _
  have hb3 : Below w.heap.size w (w2.alloc (.cells (cells E) 62)) := (hb.trans (hb2.mono hb.size)).alloc (by omega) _
  generalize w2.alloc (.cells (cells E) 62) = w3 at *
  generalize w2.heap.size = g at *
  clear hR hb hb2
  have c0 := (hF.cell 0).trans (cells_get E 0 (by have := HEL.out; omega))
  have f0 := hF.frozen 0
  go_upto_region 3 with (fail)
  rw [show (16842784 : Int) = nm 16842784#32 from rfl, nm_xor]
  have hF4 := hF.set_ 0 (.int .u32 (nm (gt E 0 ^^^ 16842784#32)))
  rw [cells_set] at hF4
  have hR4 := hR3.far (p := ⟨g, 0, none⟩) (by dsimp only; omega) (.int .u32 (nm (gt E 0 ^^^ 16842784#32)))
  have hb4 := hb3.setCell (p := ⟨g, 0, none⟩) (by dsimp only; omega) (.int .u32 (nm (gt E 0 ^^^ 16842784#32)))
  have HU : Hid (E.set 0 (gt E 0 ^^^ 16842784#32) = h0U) := Lib.hid (by rw [← HE.out]; rfl)
  rw [HU.out] at hF4
  generalize w3.setCell ⟨g, 0, none⟩ (.int .u32 (nm (gt E 0 ^^^ 16842784#32))) = w4 at *
  clear c0 f0 hF hR3 hb3
  have HHS : Hid ((cells h0U).size = 8) := Lib.hid rfl
  have HHL : Hid (h0U.length = 8) := Lib.hid rfl
  have HSE : Hid (sumS l.flatten = outD (blake h0U l.flatten) 32) := Lib.hid rfl
  generalize h0U = U at *
  have HS4 := Lib.hid ((HS.out.below hb4).below ((Below.refl _ _).drew))
  have HF4 := Lib.hid hF4
  have HB4 := Lib.hid hb4
  clear hF4 hb4
  refine wp_region_still_tail 3 (by kernel_rfl) (by kernel_rfl) ?_
  simp only [List.take_succ_cons, List.take_zero, List.drop_succ_cons, List.drop_zero]
  change wpStill _ _ w4.drew _ _ _
  refine wpStill_loadB rfl 62 (.tmp 3) rfl g rfl HF4.out.drew Tryd.underlying62 rfl sz8 HHS.out (fun K hK => ?_); go_simp; refine hK _ ?_; clear hK K
  repeat still_step
  still_call (joined_any l v _ HS4.out hl hn)
  refine wpStill_nil ?_
  change wpList _ _ _ _ _ w4.drew
  have HR4 := Lib.hid hR4.drew
  have HB5 := Lib.hid HB4.out.drew
  clear hR4 HF4 HB4 HS4
  generalize w4.drew = w5 at *
  go_wp2_with fail
  refine (digest_any U l.flatten _ HHL.out hl).mono ?_
  rintro e w6 ⟨rfl, hb6⟩
  rw [← HSE.out]
  have hR6 := HR4.out.below hb6 HR4.out.lt
  have hb7 := HB5.out.trans (hb6.mono HB5.out.size)
  have HL : Hid ((cells8 (sumS l.flatten)).size = 32) := Lib.hid (by rw [cells8_size, sumS_len])
  have HZ : Hid ((cells8 (List.replicate 32 0)).size = 32) := Lib.hid (by rw [cells8_size, List.length_replicate])
  obtain ⟨D, hD⟩ : ∃ D, sumS l.flatten = D := ⟨_, rfl⟩
  rw [hD] at HL ⊢
  have HD := Lib.hid hD
  clear hD HSE
  go_wp2_with (refine wpList_storeB rfl 37 (.tmp 2) (.tmp 12) rfl w.heap.size (cells8 D) rfl rfl hR6 sz32d HL.out HZ.out (cells8_one _) ?_)
  refine bodyPost_ret (results_B rfl _ (g := w.heap.size) rfl (hR6.row _) Tryd.underlying37 rfl sz32d HL.out) rfl ⟨by rw [HD.out], below_row hb7 (Nat.le_refl _) _⟩

end Go.Proofs.YtnkklogkjnfjgaaDoor
