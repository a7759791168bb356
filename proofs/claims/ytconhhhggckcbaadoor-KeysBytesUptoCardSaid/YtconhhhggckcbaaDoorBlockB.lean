/- Laws and walks that many claims share: Qr, First, Block. -/
import Derived.Test.YtconhhhggckcbaaDoorBaseB
import Derived.Laws.Rows
/- The walk of ChaCha20's quarter round, a closure over an array of sixteen words: the array holds, behind the call, the words of 'qr'; nothing else that was there has changed. Printed by gen_qr.py. -/
namespace Go.Proofs.YtconhhhggckcbaaDoor
open Go.RowKit
attribute [local go_sem] nm_add nm_xor

set_option maxRecDepth 100000 in
set_option maxHeartbeats 1000000 in
theorem qr_any (g a b c d : Nat) (v : List Wd) (w : World) (ha : a < 16) (hb : b < 16) (hc : c < 16) (hd : d < 16) (hl : v.length = 16)
    (hB : Blk w g 148 (cells v)) :
    Calls Tryd.prog 106 #[.int .i64 a, .int .i64 b, .int .i64 c, .int .i64 d, .pointer (some ⟨g, 0, none⟩)] w fun e w' =>
      e = .returned (.tuple #[]) ∧ Blk w' g 148 (cells (qr v a b c d)) ∧ w.grownBy w' (some g) := by
  obtain ⟨w0, hw0⟩ : ∃ w0 : World, w0 = w := ⟨_, rfl⟩
  have hG : w0.grownBy w (some g) := by rw [hw0]; exact grown_refl _ _
  obtain ⟨v0, hv0⟩ : ∃ v0 : List Wd, v0 = v := ⟨_, rfl⟩
  have HV := Lib.hid hv0
  have HW := Lib.hid hw0
  clear hv0 hw0
  have ha' : (a : Int) < 16 := by omega
  have hb' : (b : Int) < 16 := by omega
  have hc' : (c : Int) < 16 := by omega
  have hd' : (d : Int) < 16 := by omega
  go_enter Tryd.func106, Tryd.ntmps106
  go_wp2

  have ci := (hB.cell a).trans (cells_get v a (by omega))
  have cj := (hB.cell b).trans (cells_get v b (by omega))
  have fi := hB.frozen a
  refine wp_region_still_tail 7 (by kernel_rfl) (by kernel_rfl) ?_
  simp only [List.take_succ_cons, List.take_zero, List.drop_succ_cons, List.drop_zero]
  change wpStill _ _ w.drew _ _ _
  repeat still_step
  refine wpStill_nil ?_
  change wpList _ _ _ _ _ w.drew
  go_wp2
  have hB1 : Blk (w.setCell ⟨g, a, none⟩ (.int .u32 (nm (gt v a + gt v b)))).drew g 148 (cells (v.set a (gt v a + gt v b))) := by rw [← cells_set]; exact hB.set_ a _
  have hG1 : w0.grownBy (w.setCell ⟨g, a, none⟩ (.int .u32 (nm (gt v a + gt v b)))).drew (some g) := grown_drew (grown_set hG _ _)
  have hl1 : (v.set a (gt v a + gt v b)).length = 16 := by rw [List.length_set]; exact hl
  obtain ⟨v1, hv1⟩ : ∃ v1 : List Wd, v1 = v.set a (gt v a + gt v b) := ⟨_, rfl⟩
  rw [← hv1] at hB1 hl1
  have HV1 := Lib.hid hv1
  generalize (w.setCell ⟨g, a, none⟩ (.int .u32 (nm (gt v a + gt v b)))).drew = w1 at *
  clear ci cj fi hv1 hB hG
  have ci := (hB1.cell d).trans (cells_get v1 d (by omega))
  have cj := (hB1.cell a).trans (cells_get v1 a (by omega))
  have fi := hB1.frozen d
  refine wp_region_still_tail 9 (by kernel_rfl) (by kernel_rfl) ?_
  simp only [List.take_succ_cons, List.take_zero, List.drop_succ_cons, List.drop_zero]
  change wpStill _ _ w1.drew _ _ _
  repeat still_step
  still_call (rot_any _ 16 (by omega) (by omega) _)
  refine wpStill_nil ?_
  change wpList _ _ _ _ _ w1.drew
  go_wp2
  have hB2 : Blk (w1.setCell ⟨g, d, none⟩ (.int .u32 (nm (rl (gt v1 d ^^^ gt v1 a) 16)))).drew g 148 (cells (v1.set d (rl (gt v1 d ^^^ gt v1 a) 16))) := by rw [← cells_set]; exact hB1.set_ d _
  have hG2 : w0.grownBy (w1.setCell ⟨g, d, none⟩ (.int .u32 (nm (rl (gt v1 d ^^^ gt v1 a) 16)))).drew (some g) := grown_drew (grown_set hG1 _ _)
  have hl2 : (v1.set d (rl (gt v1 d ^^^ gt v1 a) 16)).length = 16 := by rw [List.length_set]; exact hl1
  obtain ⟨v2, hv2⟩ : ∃ v2 : List Wd, v2 = v1.set d (rl (gt v1 d ^^^ gt v1 a) 16) := ⟨_, rfl⟩
  rw [← hv2] at hB2 hl2
  have HV2 := Lib.hid hv2
  generalize (w1.setCell ⟨g, d, none⟩ (.int .u32 (nm (rl (gt v1 d ^^^ gt v1 a) 16)))).drew = w2 at *
  clear ci cj fi hv2 hB1 hG1
  have ci := (hB2.cell c).trans (cells_get v2 c (by omega))
  have cj := (hB2.cell d).trans (cells_get v2 d (by omega))
  have fi := hB2.frozen c
  refine wp_region_still_tail 7 (by kernel_rfl) (by kernel_rfl) ?_
  simp only [List.take_succ_cons, List.take_zero, List.drop_succ_cons, List.drop_zero]
  change wpStill _ _ w2.drew _ _ _
  repeat still_step
  refine wpStill_nil ?_
  change wpList _ _ _ _ _ w2.drew
  go_wp2
  have hB3 : Blk (w2.setCell ⟨g, c, none⟩ (.int .u32 (nm (gt v2 c + gt v2 d)))).drew g 148 (cells (v2.set c (gt v2 c + gt v2 d))) := by rw [← cells_set]; exact hB2.set_ c _
  have hG3 : w0.grownBy (w2.setCell ⟨g, c, none⟩ (.int .u32 (nm (gt v2 c + gt v2 d)))).drew (some g) := grown_drew (grown_set hG2 _ _)
  have hl3 : (v2.set c (gt v2 c + gt v2 d)).length = 16 := by rw [List.length_set]; exact hl2
  obtain ⟨v3, hv3⟩ : ∃ v3 : List Wd, v3 = v2.set c (gt v2 c + gt v2 d) := ⟨_, rfl⟩
  rw [← hv3] at hB3 hl3
  have HV3 := Lib.hid hv3
  generalize (w2.setCell ⟨g, c, none⟩ (.int .u32 (nm (gt v2 c + gt v2 d)))).drew = w3 at *
  clear ci cj fi hv3 hB2 hG2
  have ci := (hB3.cell b).trans (cells_get v3 b (by omega))
  have cj := (hB3.cell c).trans (cells_get v3 c (by omega))
  have fi := hB3.frozen b
  refine wp_region_still_tail 9 (by kernel_rfl) (by kernel_rfl) ?_
  simp only [List.take_succ_cons, List.take_zero, List.drop_succ_cons, List.drop_zero]
  change wpStill _ _ w3.drew _ _ _
  repeat still_step
  still_call (rot_any _ 12 (by omega) (by omega) _)
  refine wpStill_nil ?_
  change wpList _ _ _ _ _ w3.drew
  go_wp2
  have hB4 : Blk (w3.setCell ⟨g, b, none⟩ (.int .u32 (nm (rl (gt v3 b ^^^ gt v3 c) 12)))).drew g 148 (cells (v3.set b (rl (gt v3 b ^^^ gt v3 c) 12))) := by rw [← cells_set]; exact hB3.set_ b _
  have hG4 : w0.grownBy (w3.setCell ⟨g, b, none⟩ (.int .u32 (nm (rl (gt v3 b ^^^ gt v3 c) 12)))).drew (some g) := grown_drew (grown_set hG3 _ _)
  have hl4 : (v3.set b (rl (gt v3 b ^^^ gt v3 c) 12)).length = 16 := by rw [List.length_set]; exact hl3
  obtain ⟨v4, hv4⟩ : ∃ v4 : List Wd, v4 = v3.set b (rl (gt v3 b ^^^ gt v3 c) 12) := ⟨_, rfl⟩
  rw [← hv4] at hB4 hl4
  have HV4 := Lib.hid hv4
  generalize (w3.setCell ⟨g, b, none⟩ (.int .u32 (nm (rl (gt v3 b ^^^ gt v3 c) 12)))).drew = w4 at *
  clear ci cj fi hv4 hB3 hG3
  have ci := (hB4.cell a).trans (cells_get v4 a (by omega))
  have cj := (hB4.cell b).trans (cells_get v4 b (by omega))
  have fi := hB4.frozen a
  refine wp_region_still_tail 7 (by kernel_rfl) (by kernel_rfl) ?_
  simp only [List.take_succ_cons, List.take_zero, List.drop_succ_cons, List.drop_zero]
  change wpStill _ _ w4.drew _ _ _
  repeat still_step
  refine wpStill_nil ?_
  change wpList _ _ _ _ _ w4.drew
  go_wp2
  have hB5 : Blk (w4.setCell ⟨g, a, none⟩ (.int .u32 (nm (gt v4 a + gt v4 b)))).drew g 148 (cells (v4.set a (gt v4 a + gt v4 b))) := by rw [← cells_set]; exact hB4.set_ a _
  have hG5 : w0.grownBy (w4.setCell ⟨g, a, none⟩ (.int .u32 (nm (gt v4 a + gt v4 b)))).drew (some g) := grown_drew (grown_set hG4 _ _)
  have hl5 : (v4.set a (gt v4 a + gt v4 b)).length = 16 := by rw [List.length_set]; exact hl4
  obtain ⟨v5, hv5⟩ : ∃ v5 : List Wd, v5 = v4.set a (gt v4 a + gt v4 b) := ⟨_, rfl⟩
  rw [← hv5] at hB5 hl5
  have HV5 := Lib.hid hv5
  generalize (w4.setCell ⟨g, a, none⟩ (.int .u32 (nm (gt v4 a + gt v4 b)))).drew = w5 at *
  clear ci cj fi hv5 hB4 hG4
  have ci := (hB5.cell d).trans (cells_get v5 d (by omega))
  have cj := (hB5.cell a).trans (cells_get v5 a (by omega))
  have fi := hB5.frozen d
  refine wp_region_still_tail 9 (by kernel_rfl) (by kernel_rfl) ?_
  simp only [List.take_succ_cons, List.take_zero, List.drop_succ_cons, List.drop_zero]
  change wpStill _ _ w5.drew _ _ _
  repeat still_step
  still_call (rot_any _ 8 (by omega) (by omega) _)
  refine wpStill_nil ?_
  change wpList _ _ _ _ _ w5.drew
  go_wp2
  have hB6 : Blk (w5.setCell ⟨g, d, none⟩ (.int .u32 (nm (rl (gt v5 d ^^^ gt v5 a) 8)))).drew g 148 (cells (v5.set d (rl (gt v5 d ^^^ gt v5 a) 8))) := by rw [← cells_set]; exact hB5.set_ d _
  have hG6 : w0.grownBy (w5.setCell ⟨g, d, none⟩ (.int .u32 (nm (rl (gt v5 d ^^^ gt v5 a) 8)))).drew (some g) := grown_drew (grown_set hG5 _ _)
  have hl6 : (v5.set d (rl (gt v5 d ^^^ gt v5 a) 8)).length = 16 := by rw [List.length_set]; exact hl5
  obtain ⟨v6, hv6⟩ : ∃ v6 : List Wd, v6 = v5.set d (rl (gt v5 d ^^^ gt v5 a) 8) := ⟨_, rfl⟩
  rw [← hv6] at hB6 hl6
  have HV6 := Lib.hid hv6
  generalize (w5.setCell ⟨g, d, none⟩ (.int .u32 (nm (rl (gt v5 d ^^^ gt v5 a) 8)))).drew = w6 at *
  clear ci cj fi hv6 hB5 hG5
  have ci := (hB6.cell c).trans (cells_get v6 c (by omega))
  have cj := (hB6.cell d).trans (cells_get v6 d (by omega))
  have fi := hB6.frozen c
  refine wp_region_still_tail 7 (by kernel_rfl) (by kernel_rfl) ?_
  simp only [List.take_succ_cons, List.take_zero, List.drop_succ_cons, List.drop_zero]
  change wpStill _ _ w6.drew _ _ _
  repeat still_step
  refine wpStill_nil ?_
  change wpList _ _ _ _ _ w6.drew
  go_wp2
  have hB7 : Blk (w6.setCell ⟨g, c, none⟩ (.int .u32 (nm (gt v6 c + gt v6 d)))).drew g 148 (cells (v6.set c (gt v6 c + gt v6 d))) := by rw [← cells_set]; exact hB6.set_ c _
  have hG7 : w0.grownBy (w6.setCell ⟨g, c, none⟩ (.int .u32 (nm (gt v6 c + gt v6 d)))).drew (some g) := grown_drew (grown_set hG6 _ _)
  have hl7 : (v6.set c (gt v6 c + gt v6 d)).length = 16 := by rw [List.length_set]; exact hl6
  obtain ⟨v7, hv7⟩ : ∃ v7 : List Wd, v7 = v6.set c (gt v6 c + gt v6 d) := ⟨_, rfl⟩
  rw [← hv7] at hB7 hl7
  have HV7 := Lib.hid hv7
  generalize (w6.setCell ⟨g, c, none⟩ (.int .u32 (nm (gt v6 c + gt v6 d)))).drew = w7 at *
  clear ci cj fi hv7 hB6 hG6
  have ci := (hB7.cell b).trans (cells_get v7 b (by omega))
  have cj := (hB7.cell c).trans (cells_get v7 c (by omega))
  have fi := hB7.frozen b
  refine wp_region_still_tail 9 (by kernel_rfl) (by kernel_rfl) ?_
  simp only [List.take_succ_cons, List.take_zero, List.drop_succ_cons, List.drop_zero]
  change wpStill _ _ w7.drew _ _ _
  repeat still_step
  still_call (rot_any _ 7 (by omega) (by omega) _)
  refine wpStill_nil ?_
  change wpList _ _ _ _ _ w7.drew
  go_wp2
  have hB8 : Blk (w7.setCell ⟨g, b, none⟩ (.int .u32 (nm (rl (gt v7 b ^^^ gt v7 c) 7)))).drew g 148 (cells (v7.set b (rl (gt v7 b ^^^ gt v7 c) 7))) := by rw [← cells_set]; exact hB7.set_ b _
  have hG8 : w0.grownBy (w7.setCell ⟨g, b, none⟩ (.int .u32 (nm (rl (gt v7 b ^^^ gt v7 c) 7)))).drew (some g) := grown_drew (grown_set hG7 _ _)
  have hl8 : (v7.set b (rl (gt v7 b ^^^ gt v7 c) 7)).length = 16 := by rw [List.length_set]; exact hl7
  obtain ⟨v8, hv8⟩ : ∃ v8 : List Wd, v8 = v7.set b (rl (gt v7 b ^^^ gt v7 c) 7) := ⟨_, rfl⟩
  rw [← hv8] at hB8 hl8
  have HV8 := Lib.hid hv8
  generalize (w7.setCell ⟨g, b, none⟩ (.int .u32 (nm (rl (gt v7 b ^^^ gt v7 c) 7)))).drew = w8 at *
  clear ci cj fi hv8 hB7 hG7
  go_end0
  have e : qr v0 a b c d = v8 := by
    rw [HV8.out, HV7.out, HV6.out, HV5.out, HV4.out, HV3.out, HV2.out, HV1.out, HV.out]; rfl
  have e0 : w0 = w := HW.out
  subst e0
  have e1 : v0 = v := HV.out
  subst e1
  rw [e]
  exact ⟨rfl, hB8, hG8⟩
end Go.Proofs.YtconhhhggckcbaaDoor
/- the words that a block begins with -/
namespace Go.Proofs.YtconhhhggckcbaaDoor
open Go.RowKit

theorem size16w : (Tryd.prog.info? 148).map (·.size) = some 16 := by kernel_rfl
theorem size8 (w : World) : (sizeOf 5).run Tryd.prog w = .ok 1 w := by kernel_rfl
/-- the world at a round's head. -/
def FRel (k nonce : List UInt8) (v : List Wd) (w wr : World) : Prop :=
  Blk wr w.heap.size 23 (cells8 k) ∧ Blk wr (w.heap.size + 1) 104 (cells8 nonce) ∧ (∃ zs, Blk wr (w.heap.size + 1 + 1) 148 zs ∧ zs.size = 16) ∧
  Blk wr (w.heap.size + 1 + 1 + 1) 148 (cells v) ∧ Below w.heap.size w wr
theorem FRel.put {k nonce : List UInt8} {v : List Wd} {w wr : World} (h : FRel k nonce v w wr) (i : Nat) (x : Wd) :
    FRel k nonce (v.set i x) w (wr.setCell ⟨w.heap.size + 1 + 1 + 1, i, none⟩ (.int .u32 (nm x))) := by
  obtain ⟨h1, h2, ⟨zs, h3, hz⟩, h4, h5⟩ := h
  refine ⟨h1.far (by dsimp only; omega) _, h2.far (by dsimp only; omega) _, ⟨zs, h3.far (by dsimp only; omega) _, hz⟩, ?_, h5.setCell (by dsimp only; omega) _⟩
  rw [← cells_set]; exact h4.set_ i _
theorem FRel.drew {k nonce : List UInt8} {v : List Wd} {w wr : World} (h : FRel k nonce v w wr) : FRel k nonce v w wr.drew := by
  obtain ⟨h1, h2, ⟨zs, h3, hz⟩, h4, h5⟩ := h
  exact ⟨h1, h2, ⟨zs, h3, hz⟩, h4, h5.drew⟩

set_option maxRecDepth 100000 in
set_option maxHeartbeats 1000000 in
theorem first_any (k nonce : List UInt8) (n : Wd) (w : World) (hk : k.length = 32) (hn : nonce.length = 12) :
    Calls Tryd.prog 105 #[.agg (cells8 k), .agg (cells8 nonce), .int .u32 (nm n)] w fun e w' =>
      e = .returned (.agg (cells (fst16 k nonce n))) ∧ Below w.heap.size w w' := by
  have HK := Lib.hid hk
  have HN := Lib.hid hn
  clear hk hn
  go_enter Tryd.func105, Tryd.ntmps105
  go_wp2
  go_loopw [11] (fun i wr => ∃ j : Nat, j ≤ 8 ∧ i = .int .i64 j ∧ FRel k nonce (putWs k 4 base16 j) w wr) (fun i _ => 8 - (intOf i).toNat)
  case atStart =>
    refine ⟨0, by omega, rfl, ?_⟩
    refine ⟨(((Blk.new w _ _).alloc _).alloc _).alloc _, ?_, ⟨Array.replicate 16 (.int .u32 0), ?_, by simp⟩, ?_, ?_⟩
    · have := (Blk.new (w.alloc (.cells (cells8 k) 23)) 104 (cells8 nonce))
      rw [World.size_alloc] at this
      exact (this.alloc _).alloc _
    · have := (Blk.new ((w.alloc (.cells (cells8 k) 23)).alloc (.cells (cells8 nonce) 104)) 148 (Array.replicate 16 (.int .u32 0)))
      rw [World.size_alloc, World.size_alloc] at this
      exact this.alloc _
    · have := (Blk.new (((w.alloc (.cells (cells8 k) 23)).alloc (.cells (cells8 nonce) 104)).alloc (.cells (Array.replicate 16 (.int .u32 0)) 148)) 148 (cells base16))
      rw [World.size_alloc, World.size_alloc, World.size_alloc] at this
      exact this
    · exact ((((Below.refl _ _).alloc (by simp) _).alloc (by simp) _).alloc (by simp; omega) _).alloc (by simp; omega) _
  case round =>
    obtain ⟨j, hj, rfl, hR⟩ := hrel
    by_cases hlt : j < 8
    · have hlt' : (j : Int) < 8 := by omega
      have hsl := run_sliceArr_l Tryd.underlying23 size8 w.heap.size 0 (4 * (j : Int)) (by omega) (by omega)
      rw [show 0 + (4 * (j : Int)).toNat = 4 * j by omega] at hsl
      have c0 := (hR.1.cell (4 * j)).trans (cells8_get k (4 * j) (by have := HK.out; omega))
      have c1 := (hR.1.cell (4 * j + 1)).trans (cells8_get k (4 * j + 1) (by have := HK.out; omega))
      have c2 := (hR.1.cell (4 * j + 2)).trans (cells8_get k (4 * j + 2) (by have := HK.out; omega))
      have c3 := (hR.1.cell (4 * j + 3)).trans (cells8_get k (4 * j + 3) (by have := HK.out; omega))
      have cj := (hR.2.2.2.1.cell (4 + j)).trans (cells_get _ (4 + j) (by rw [putWs_len]; show 4 + j < 16; omega))
      have fj := hR.2.2.2.1.frozen (4 + j)
      have H0 := Lib.hid c0
      have H1 := Lib.hid c1
      have H2 := Lib.hid c2
      have H3 := Lib.hid c3
      clear c0 c1 c2 c3
      go_wp2_with (go_at_call 117; refine (word_any _ _ _ _ _ _ _ _ _ (by omega) H0.out H1.out H2.out H3.out).mono ?_; rintro e w' ⟨rfl, rfl⟩)
      go_roundw
      case rel => exact ⟨j + 1, by omega, by go_num, (hR.put (4 + j) (wdAt k (4 * j))).drew⟩
      case measure => simp [intOf]; omega
    · obtain rfl : j = 8 := by omega
      rw [show ((8 : Nat) : Int) = 8 from rfl]
      have cj := (hR.2.2.2.1.cell 12).trans (cells_get _ 12 (by rw [putWs_len]; decide))
      have fj := hR.2.2.2.1.frozen 12
      go_wp2
      have hR2 := hR.put 12 n
      generalize wr.setCell { block := w.heap.size + 1 + 1 + 1, off := 12 } (.int .u32 (nm n)) = w2 at *
      clear hR cj fj
      go_loopw [24] (fun i wr => ∃ j : Nat, j ≤ 3 ∧ i = .int .i64 j ∧ FRel k nonce (putWs nonce 13 ((putWs k 4 base16 8).set 12 n) j) w wr) (fun i _ => 3 - (intOf i).toNat)
      case atStart => exact ⟨0, by omega, rfl, hR2⟩
      case round =>
        obtain ⟨j, hj, rfl, hR⟩ := hrel
        by_cases hlt : j < 3
        · have hlt' : (j : Int) < 3 := by omega
          have hsl := run_sliceArr_l Tryd.underlying104 size8 (w.heap.size + 1) 0 (4 * (j : Int)) (by omega) (by omega)
          rw [show 0 + (4 * (j : Int)).toNat = 4 * j by omega] at hsl
          have c0 := (hR.2.1.cell (4 * j)).trans (cells8_get nonce (4 * j) (by have := HN.out; omega))
          have c1 := (hR.2.1.cell (4 * j + 1)).trans (cells8_get nonce (4 * j + 1) (by have := HN.out; omega))
          have c2 := (hR.2.1.cell (4 * j + 2)).trans (cells8_get nonce (4 * j + 2) (by have := HN.out; omega))
          have c3 := (hR.2.1.cell (4 * j + 3)).trans (cells8_get nonce (4 * j + 3) (by have := HN.out; omega))
          have cj := (hR.2.2.2.1.cell (13 + j)).trans (cells_get _ (13 + j) (by rw [putWs_len, List.length_set, putWs_len]; show 13 + j < 16; omega))
          have fj := hR.2.2.2.1.frozen (13 + j)
          have H0 := Lib.hid c0
          have H1 := Lib.hid c1
          have H2 := Lib.hid c2
          have H3 := Lib.hid c3
          clear c0 c1 c2 c3
          go_wp2_with (go_at_call 117; refine (word_any _ _ _ _ _ _ _ _ _ (by omega) H0.out H1.out H2.out H3.out).mono ?_; rintro e w' ⟨rfl, rfl⟩)
          go_roundw
          case rel => exact ⟨j + 1, by omega, by go_num, (hR.put (13 + j) (wdAt nonce (4 * j))).drew⟩
          case measure => simp [intOf]; omega
        · obtain rfl : j = 3 := by omega
          obtain ⟨h1, h2, ⟨zs, h3, hz⟩, h4, h5⟩ := hR
          have e16 : (cells (putWs nonce 13 ((putWs k 4 base16 8).set 12 n) 3)).size = 16 := by rw [cells_size]; exact fst16_len k nonce n
          have HS := Lib.hid e16
          clear e16
          go_wp2_with (first | (refine wpList_loadB rfl 148 (.tmp 7) rfl (w.heap.size + 1 + 1 + 1) rfl h4 Tryd.underlying148 rfl size16w HS.out ?_) | (refine wpList_storeB rfl 148 (.tmp 6) (.tmp 35) rfl (w.heap.size + 1 + 1) _ rfl rfl h3 size16w HS.out hz (cells_one _) ?_))
          refine bodyPost_ret (results_B rfl _ (g := w.heap.size + 1 + 1) rfl (h3.row _) Tryd.underlying148 rfl size16w HS.out) rfl ⟨rfl, below_row h5 (by omega) _⟩
end Go.Proofs.YtconhhhggckcbaaDoor
/- The walk of cipher.Block: it returns the bytes of 'chacha'. -/
namespace Go.Proofs.YtconhhhggckcbaaDoor
open Go.RowKit

theorem size32k : (Tryd.prog.info? 23).map (·.size) = some 32 := by kernel_rfl
theorem size12b : (Tryd.prog.info? 104).map (·.size) = some 12 := by kernel_rfl
theorem size64b : (Tryd.prog.info? 46).map (·.size) = some 64 := by kernel_rfl

theorem size32w (w : World) : (sizeOf 112).run Tryd.prog w = .ok 1 w := by kernel_rfl
/-- the world while bytes are laid. -/
def CRel (p r : Nat) (f : List Wd) (o : List UInt8) (w wr : World) : Prop :=
  (∃ zs, Blk wr (w.heap.size + 1 + 1) 46 zs ∧ zs.size = 64) ∧ Blk wr p 148 (cells f) ∧ Blk wr r 46 (cells8 o) ∧ Below w.heap.size w wr
theorem CRel.put {p r : Nat} {f : List Wd} {o : List UInt8} {w wr : World} (h : CRel p r f o w wr) (hr : w.heap.size + 1 + 1 < p) (hp : p < r) (i : Nat) (x : UInt8) :
    CRel p r f (o.set i x) w (wr.setCell ⟨r, i, none⟩ (.int .u8 (x.toNat : Int))) := by
  obtain ⟨⟨zs, h1, hz⟩, h2, h3, h5⟩ := h
  refine ⟨⟨zs, h1.far (by dsimp only; omega) _, hz⟩, h2.far (by dsimp only; omega) _, ?_, h5.setCell (by dsimp only; omega) _⟩
  rw [← cells8_set]; exact h3.set_ i _
/-- the world between the rounds. -/
def BRel (p : Nat) (f v : List Wd) (w wr : World) : Prop :=
  (∃ zs, Blk wr (w.heap.size + 1 + 1) 46 zs ∧ zs.size = 64) ∧ Blk wr p 148 (cells f) ∧ Blk wr (p + 1) 148 (cells v) ∧ Below w.heap.size w wr

set_option maxRecDepth 100000 in
set_option maxHeartbeats 1000000 in
theorem block_any (k nonce : List UInt8) (n : Wd) (w : World) (hk : k.length = 32) (hn : nonce.length = 12) :
    Calls Tryd.prog 98 #[.agg (cells8 k), .agg (cells8 nonce), .int .u32 (nm n)] w fun e w' =>
      e = .returned (.agg (cells8 (chacha k nonce n))) ∧ Below w.heap.size w w' := by
  have HK := Lib.hid hk
  have HN := Lib.hid hn
  have HL : Hid ((cells (fst16 k nonce n)).size = 16) := Lib.hid (by rw [cells_size, fst16_len])
  have HK8 : Hid ((cells8 k).size = 32) := Lib.hid (by rw [cells8_size]; exact hk)
  have HN8 : Hid ((cells8 nonce).size = 12) := Lib.hid (by rw [cells8_size]; exact hn)
  clear hk hn
  have hb0 : ∀ o, Blk (((w.alloc (.cells (cells8 k) 23)).alloc (.cells (cells8 nonce) 104)).alloc o) w.heap.size 23 (cells8 k) := fun o => ((Blk.new _ _ _).alloc _).alloc _
  have hb1 : ∀ o, Blk (((w.alloc (.cells (cells8 k) 23)).alloc (.cells (cells8 nonce) 104)).alloc o) (w.heap.size + 1) 104 (cells8 nonce) := fun o => (Blk.newAt _ _ _ (by simp)).alloc _
  have H0 := Lib.hid hb0
  have H1 := Lib.hid hb1
  clear hb0 hb1
  go_enter Tryd.func98, Tryd.ntmps98
  go_wp2_with (first | (refine wpList_loadB rfl 23 (.tmp 3) rfl w.heap.size rfl (H0.out _) Tryd.underlying23 rfl size32k HK8.out ?_) | (refine wpList_loadB rfl 104 (.tmp 4) rfl (w.heap.size + 1) rfl (H1.out _) Tryd.underlying104 rfl size12b HN8.out ?_))
  refine (first_any k nonce n _ HK.out HN.out).mono ?_
  rintro e w1 ⟨rfl, hb⟩
  have hB : Below w.heap.size w w1 := ((((Below.refl _ _).alloc (Nat.le_refl _) _).alloc (by simp) _).alloc (by simp; omega) _).trans (hb.mono (by simp; omega))
  have hz : ∃ zs, Blk w1 (w.heap.size + 1 + 1) 46 zs ∧ zs.size = 64 := ⟨_, (Blk.newAt _ _ _ (by simp)).below hb (by simp), rfl⟩
  have hs1 : w.heap.size + 1 + 1 < w1.heap.size := by have := hb.size; simp at this; omega
  clear hb H0 H1
  go_wp2_with (first | (refine wpList_storeNew rfl 148 (.tmp 7) (.tmp 17) rfl w1 w1.heap.size rfl rfl _ rfl rfl size16w HL.out rfl (cells_one _) ?_) | (refine wpList_loadNew rfl 148 (.tmp 7) rfl w1 w1.heap.size rfl rfl rfl Tryd.underlying148 rfl size16w HL.out ?_) | (refine wpList_storeNew rfl 148 (.tmp 8) (.tmp 18) rfl _ (w1.heap.size + 1) (World.size_alloc _ _) rfl _ rfl rfl size16w HL.out rfl (cells_one _) ?_))
  generalize hp : w1.heap.size = p at *
  have hpp : Blk ((w1.alloc (Obj.cells (cells (fst16 k nonce n)) 148)).alloc (Obj.cells (cells (fst16 k nonce n)) 148)) p 148 (cells (fst16 k nonce n)) := (Blk.newAt _ _ _ hp).alloc _
  have hqq : Blk ((w1.alloc (Obj.cells (cells (fst16 k nonce n)) 148)).alloc (Obj.cells (cells (fst16 k nonce n)) 148)) (p + 1) 148 (cells (fst16 k nonce n)) := Blk.newAt _ _ _ (by simp [hp])
  have hzz : ∃ zs, Blk ((w1.alloc (Obj.cells (cells (fst16 k nonce n)) 148)).alloc (Obj.cells (cells (fst16 k nonce n)) 148)) (w.heap.size + 1 + 1) 46 zs ∧ zs.size = 64 := by
    obtain ⟨zs, h1, h2⟩ := hz
    exact ⟨zs, (h1.alloc _).alloc _, h2⟩
  have hBB : Below w.heap.size w ((w1.alloc (Obj.cells (cells (fst16 k nonce n)) 148)).alloc (Obj.cells (cells (fst16 k nonce n)) 148)) := (hB.alloc (by omega) _).alloc (by simp; omega) _
  have hR0 : BRel p (fst16 k nonce n) (fst16 k nonce n) w ((w1.alloc (Obj.cells (cells (fst16 k nonce n)) 148)).alloc (Obj.cells (cells (fst16 k nonce n)) 148)) := ⟨hzz, hpp, hqq, hBB⟩
  clear hpp hqq hzz hBB hz hB hp
  generalize (w1.alloc (Obj.cells (cells (fst16 k nonce n)) 148)).alloc (Obj.cells (cells (fst16 k nonce n)) 148) = wa at *
  go_loopw [20] (fun i wr => ∃ j : Nat, j ≤ 10 ∧ i = .int .i64 j ∧ BRel p (fst16 k nonce n) (rnds (fst16 k nonce n) j) w wr) (fun i _ => 10 - (intOf i).toNat)
  case atStart => exact ⟨0, by omega, rfl, hR0⟩
  case round =>
    clear hR0
    obtain ⟨j, hj, rfl, hR⟩ := hrel
    by_cases hlt : j < 10
    · have hlt' : (j : Int) < 10 := by omega
      obtain ⟨v, hv⟩ : ∃ v, v = rnds (fst16 k nonce n) j := ⟨_, rfl⟩
      rw [← hv] at hR
      have hl : v.length = 16 := by rw [hv, rnds_len, fst16_len]
      have HV := Lib.hid hv
      clear hv
      obtain ⟨hq, hp, hB0, hbel⟩ := hR
      have hG0 : wr.grownBy wr (some (p + 1)) := grown_refl _ _
      go_wp2_with fail
      refine (qr_any (p + 1) 0 4 8 12 v _ (by omega) (by omega) (by omega) (by omega) hl hB0).mono ?_
      rintro e w2 ⟨rfl, hB1, hg⟩
      have hG1 := grown_trans hG0 hg
      have hl1 : (qr v 0 4 8 12).length = 16 := by rw [qr_len]; exact hl
      obtain ⟨v1, hv⟩ : ∃ v1, v1 = qr v 0 4 8 12 := ⟨_, rfl⟩
      rw [← hv] at hB1 hl1
      have HV1 := Lib.hid hv
      clear hv hg hG0 hB0
      go_wp2_with fail
      refine (qr_any (p + 1) 1 5 9 13 v1 _ (by omega) (by omega) (by omega) (by omega) hl1 hB1).mono ?_
      rintro e w3 ⟨rfl, hB2, hg⟩
      have hG2 := grown_trans hG1 hg
      have hl2 : (qr v1 1 5 9 13).length = 16 := by rw [qr_len]; exact hl1
      obtain ⟨v2, hv⟩ : ∃ v2, v2 = qr v1 1 5 9 13 := ⟨_, rfl⟩
      rw [← hv] at hB2 hl2
      have HV2 := Lib.hid hv
      clear hv hg hG1 hB1
      go_wp2_with fail
      refine (qr_any (p + 1) 2 6 10 14 v2 _ (by omega) (by omega) (by omega) (by omega) hl2 hB2).mono ?_
      rintro e w4 ⟨rfl, hB3, hg⟩
      have hG3 := grown_trans hG2 hg
      have hl3 : (qr v2 2 6 10 14).length = 16 := by rw [qr_len]; exact hl2
      obtain ⟨v3, hv⟩ : ∃ v3, v3 = qr v2 2 6 10 14 := ⟨_, rfl⟩
      rw [← hv] at hB3 hl3
      have HV3 := Lib.hid hv
      clear hv hg hG2 hB2
      go_wp2_with fail
      refine (qr_any (p + 1) 3 7 11 15 v3 _ (by omega) (by omega) (by omega) (by omega) hl3 hB3).mono ?_
      rintro e w5 ⟨rfl, hB4, hg⟩
      have hG4 := grown_trans hG3 hg
      have hl4 : (qr v3 3 7 11 15).length = 16 := by rw [qr_len]; exact hl3
      obtain ⟨v4, hv⟩ : ∃ v4, v4 = qr v3 3 7 11 15 := ⟨_, rfl⟩
      rw [← hv] at hB4 hl4
      have HV4 := Lib.hid hv
      clear hv hg hG3 hB3
      go_wp2_with fail
      refine (qr_any (p + 1) 0 5 10 15 v4 _ (by omega) (by omega) (by omega) (by omega) hl4 hB4).mono ?_
      rintro e w6 ⟨rfl, hB5, hg⟩
      have hG5 := grown_trans hG4 hg
      have hl5 : (qr v4 0 5 10 15).length = 16 := by rw [qr_len]; exact hl4
      obtain ⟨v5, hv⟩ : ∃ v5, v5 = qr v4 0 5 10 15 := ⟨_, rfl⟩
      rw [← hv] at hB5 hl5
      have HV5 := Lib.hid hv
      clear hv hg hG4 hB4
      go_wp2_with fail
      refine (qr_any (p + 1) 1 6 11 12 v5 _ (by omega) (by omega) (by omega) (by omega) hl5 hB5).mono ?_
      rintro e w7 ⟨rfl, hB6, hg⟩
      have hG6 := grown_trans hG5 hg
      have hl6 : (qr v5 1 6 11 12).length = 16 := by rw [qr_len]; exact hl5
      obtain ⟨v6, hv⟩ : ∃ v6, v6 = qr v5 1 6 11 12 := ⟨_, rfl⟩
      rw [← hv] at hB6 hl6
      have HV6 := Lib.hid hv
      clear hv hg hG5 hB5
      go_wp2_with fail
      refine (qr_any (p + 1) 2 7 8 13 v6 _ (by omega) (by omega) (by omega) (by omega) hl6 hB6).mono ?_
      rintro e w8 ⟨rfl, hB7, hg⟩
      have hG7 := grown_trans hG6 hg
      have hl7 : (qr v6 2 7 8 13).length = 16 := by rw [qr_len]; exact hl6
      obtain ⟨v7, hv⟩ : ∃ v7, v7 = qr v6 2 7 8 13 := ⟨_, rfl⟩
      rw [← hv] at hB7 hl7
      have HV7 := Lib.hid hv
      clear hv hg hG6 hB6
      go_wp2_with fail
      refine (qr_any (p + 1) 3 4 9 14 v7 _ (by omega) (by omega) (by omega) (by omega) hl7 hB7).mono ?_
      rintro e w9 ⟨rfl, hB8, hg⟩
      have hG8 := grown_trans hG7 hg
      have hl8 : (qr v7 3 4 9 14).length = 16 := by rw [qr_len]; exact hl7
      obtain ⟨v8, hv⟩ : ∃ v8, v8 = qr v7 3 4 9 14 := ⟨_, rfl⟩
      rw [← hv] at hB8 hl8
      have HV8 := Lib.hid hv
      clear hv hg hG7 hB7
      go_wp2_with fail
      have e : rnds (fst16 k nonce n) (j + 1) = v8 := by
        rw [HV8.out, HV7.out, HV6.out, HV5.out, HV4.out, HV3.out, HV2.out, HV1.out, HV.out]; rfl
      have hR' : BRel p (fst16 k nonce n) (rnds (fst16 k nonce n) (j + 1)) w w9 := by
        rw [e]
        obtain ⟨zs, hz1, hz2⟩ := hq
        exact ⟨⟨zs, hz1.grown hG8 (by simp; omega), hz2⟩, hp.grown hG8 (by simp), hB8, below_grown hbel hG8 (by omega) (by have := hbel.size; omega)⟩
      clear e HV HV1 HV2 HV3 HV4 HV5 HV6 HV7 HV8
      go_roundw
      case rel => exact ⟨j + 1, by omega, by go_num, hR'⟩
      case measure => simp [intOf]; omega
    · obtain rfl : j = 10 := by omega
      rw [show ((10 : Nat) : Int) = 10 from rfl]
      have hl : (rnds (fst16 k nonce n) 10).length = 16 := by rw [rnds_len, fst16_len]
      have hf : (fst16 k nonce n).length = 16 := fst16_len _ _ _
      have hfin : chacha k nonce n = outs (rnds (fst16 k nonce n) 10) (fst16 k nonce n) 64 := rfl
      generalize rnds (fst16 k nonce n) 10 = v at *
      generalize fst16 k nonce n = f at *
      have HF := Lib.hid hfin
      have HLV := Lib.hid hl
      have HLF := Lib.hid hf
      have HCV : Hid ((cells v).size = 16) := Lib.hid (by rw [cells_size, hl])
      clear hfin hl hf
      obtain ⟨⟨zs, hz1, hz2⟩, hp, hB, hbel⟩ := hR
      have hB1 := fun o => hB.alloc o
      have HB1 := Lib.hid hB1
      clear hB1
      go_wp2_with (refine wpList_loadB rfl 148 (.tmp 8) rfl (p + 1) rfl (HB1.out _) Tryd.underlying148 rfl size16w HCV.out ?_)
      have hr1 : p + 1 < wr.heap.size := hB.lt
      change Code.wp _ _ _ _ (wr.alloc (.cells (cells8 (outs v f 0)) 46))
      have hR1 : CRel p wr.heap.size f (outs v f 0) w (wr.alloc (.cells (cells8 (outs v f 0)) 46)) :=
        ⟨⟨zs, hz1.alloc _, hz2⟩, hp.alloc _, Blk.new _ _ _, hbel.alloc (by omega) _⟩
      clear hz1 hz2 hp hB hbel HB1
      generalize wr.alloc (.cells (cells8 (outs v f 0)) 46) = wb at *
      generalize wr.heap.size = r at *
      go_loopw [40] (fun i wr => ∃ j : Nat, j ≤ 16 ∧ i = .int .i64 j ∧ CRel p r f (outs v f (4 * j)) w wr) (fun i _ => 16 - (intOf i).toNat)
      case atStart => exact ⟨0, by omega, rfl, hR1⟩
      case round =>
        clear hR1
        obtain ⟨i, hi, rfl, hR⟩ := hrel
        by_cases hlt : i < 16
        · have hlt' : (i : Int) < 16 := by omega
          have hix := run_indexAgg Tryd.underlying148 Tryd.underlying112 rfl size32w (cells v) i hlt _ (cells_get v i (by have := HLV.out; omega)) .i64
          have hc := (hR.2.1.cell i).trans (cells_get f i (by have := HLF.out; omega))
          go_wp2
          obtain ⟨wo, hwo⟩ : ∃ wo : World, wo = wr := ⟨_, rfl⟩
          rw [← hwo] at hR hc ⊢
          clear hwo
          obtain ⟨x, hx⟩ : ∃ x, x = gt v i + gt f i := ⟨_, rfl⟩
          rw [nm_add', ← hx]
          have HX := Lib.hid hx
          clear hx hix hc
          go_loopw [49] (fun t wr => ∃ j : Nat, j ≤ 4 ∧ t = .int .i64 j ∧ CRel p r f (outs v f (4 * i + j)) w wr) (fun t _ => 4 - (intOf t).toNat)
          case atStart => exact ⟨0, by omega, rfl, hR⟩
          case round =>
            clear hR
            obtain ⟨j, hj, rfl, hR⟩ := hrel
            by_cases hlt2 : j < 4
            · have hlt2' : (j : Int) < 4 := by omega
              have cj := (hR.2.2.1.cell (4 * i + j)).trans (cells8_get _ (4 * i + j) (by rw [outs_len]; omega))
              have fj := hR.2.2.1.frozen (4 * i + j)
              go_wp2
              go_roundw
              case rel =>
                refine ⟨j + 1, by omega, by go_num, ?_⟩
                rw [byteOf_eq', HX.out]
                have h1 : (4 * i + j) / 4 = i := by omega
                have h2 : (4 * i + j) % 4 = j := by omega
                have h := hR.put (by omega) (by omega) (4 * i + j) (byteOf (gt v i + gt f i) j)
                have e : outs v f (4 * i + (j + 1)) = (outs v f (4 * i + j)).set (4 * i + j) (byteOf (gt v i + gt f i) j) := by
                  show (outs v f (4 * i + j)).set (4 * i + j) (byteOf (gt v ((4 * i + j) / 4) + gt f ((4 * i + j) / 4)) ((4 * i + j) % 4)) = _
                  rw [h1, h2]
                rw [e]; exact h
              case measure => simp [intOf]; omega
            · obtain rfl : j = 4 := by omega
              go_wp2
              go_roundw
              case rel => exact ⟨i + 1, by omega, by go_num, hR⟩
              case measure => simp [intOf]; omega
        · obtain rfl : i = 16 := by omega
          obtain ⟨⟨zs, hz1, hz2⟩, hp, hB, hbel⟩ := hR
          have hs : (cells8 (outs v f 64)).size = 64 := by rw [cells8_size, outs_len]
          have HS := Lib.hid hs
          clear hs
          go_wp2_with (first | (refine wpList_loadB rfl 46 (.tmp 10) rfl r rfl hB Tryd.underlying46 rfl size64b HS.out ?_) | (refine wpList_storeB rfl 46 (.tmp 6) (.tmp 64) rfl (w.heap.size + 1 + 1) _ rfl rfl hz1 size64b HS.out hz2 (cells8_one _) ?_))
          rw [HF.out]
          refine bodyPost_ret (results_B rfl _ (g := w.heap.size + 1 + 1) rfl (hz1.row _) Tryd.underlying46 rfl size64b HS.out) rfl ⟨rfl, below_row hbel (by omega) _⟩
end Go.Proofs.YtconhhhggckcbaaDoor
