/- the words that a block begins with -/
import Derived.Test.YtilbebjjmnncdaaDoorWord
import Derived.Laws.Rows
namespace Go.Proofs.YtilbebjjmnncdaaDoor
open Go.RowKit

theorem size16w : (Tryd.prog.info? 104).map (·.size) = some 16 := by kernel_rfl
theorem size8 (w : World) : (sizeOf 5).run Tryd.prog w = .ok 1 w := by kernel_rfl
/-- the world at a round's head. -/
def FRel (k nonce : List UInt8) (v : List Wd) (w wr : World) : Prop :=
  Blk wr w.heap.size 23 (cells8 k) ∧ Blk wr (w.heap.size + 1) 24 (cells8 nonce) ∧ (∃ zs, Blk wr (w.heap.size + 1 + 1) 104 zs ∧ zs.size = 16) ∧
  Blk wr (w.heap.size + 1 + 1 + 1) 104 (cells v) ∧ Below w.heap.size w wr
theorem FRel.put {k nonce : List UInt8} {v : List Wd} {w wr : World} (h : FRel k nonce v w wr) (i : Nat) (x : Wd) :
    FRel k nonce (v.set i x) w (wr.setCell ⟨w.heap.size + 1 + 1 + 1, i, none⟩ (.int .u32 (nm x))) := by
  obtain ⟨h1, h2, ⟨zs, h3, hz⟩, h4, h5⟩ := h
  refine ⟨h1.far (by dsimp only; omega) _, h2.far (by dsimp only; omega) _, ⟨zs, h3.far (by dsimp only; omega) _, hz⟩, ?_, h5.setCell (by dsimp only; omega) _⟩
  rw [← cells_set]; exact h4.set_ i _
theorem FRel.drew {k nonce : List UInt8} {v : List Wd} {w wr : World} (h : FRel k nonce v w wr) : FRel k nonce v w wr.drew := by
  obtain ⟨h1, h2, ⟨zs, h3, hz⟩, h4, h5⟩ := h
  exact ⟨h1, h2, ⟨zs, h3, hz⟩, h4, h5.drew⟩

set_option maxRecDepth 100000 in
set_option maxHeartbeats 1000000 in
theorem first_any (k nonce : List UInt8) (n : Wd) (w : World) (hk : k.length = 32) (hn : nonce.length = 12) :
    Calls Tryd.prog 67 #[.agg (cells8 k), .agg (cells8 nonce), .int .u32 (nm n)] w fun e w' =>
      e = .returned (.agg (cells (fst16 k nonce n))) ∧ Below w.heap.size w w' := by
  have HK := Lib.hid hk
  have HN := Lib.hid hn
  clear hk hn
  go_enter Tryd.func67, Tryd.ntmps67
  go_wp2
  go_loopw [11] (fun i wr => ∃ j : Nat, j ≤ 8 ∧ i = .int .i64 j ∧ FRel k nonce (putWs k 4 base16 j) w wr) (fun i _ => 8 - (intOf i).toNat)
  case atStart =>
    refine ⟨0, by omega, rfl, ?_⟩
    refine ⟨(((Blk.new w _ _).alloc _).alloc _).alloc _, ?_, ⟨Array.replicate 16 (.int .u32 0), ?_, by simp⟩, ?_, ?_⟩
    · have := (Blk.new (w.alloc (.cells (cells8 k) 23)) 24 (cells8 nonce))
      rw [World.size_alloc] at this
      exact (this.alloc _).alloc _
    · have := (Blk.new ((w.alloc (.cells (cells8 k) 23)).alloc (.cells (cells8 nonce) 24)) 104 (Array.replicate 16 (.int .u32 0)))
      rw [World.size_alloc, World.size_alloc] at this
      exact this.alloc _
    · have := (Blk.new (((w.alloc (.cells (cells8 k) 23)).alloc (.cells (cells8 nonce) 24)).alloc (.cells (Array.replicate 16 (.int .u32 0)) 104)) 104 (cells base16))
      rw [World.size_alloc, World.size_alloc, World.size_alloc] at this
      exact this
    · exact ((((Below.refl _ _).alloc (by simp) _).alloc (by simp) _).alloc (by simp; omega) _).alloc (by simp; omega) _
  case round =>
    obtain ⟨j, hj, rfl, hR⟩ := hrel
    by_cases hlt : j < 8
    · have hlt' : (j : Int) < 8 := by omega
      have hsl := run_sliceArr_l Tryd.underlying23 size8 w.heap.size 0 (4 * (j : Int)) (by omega) (by omega)
      rw [show 0 + (4 * (j : Int)).toNat = 4 * j by omega] at hsl
      have c0 := (hR.1.cell (4 * j)).trans (cells8_get k (4 * j) (by have := HK.out; omega))
      have c1 := (hR.1.cell (4 * j + 1)).trans (cells8_get k (4 * j + 1) (by have := HK.out; omega))
      have c2 := (hR.1.cell (4 * j + 2)).trans (cells8_get k (4 * j + 2) (by have := HK.out; omega))
      have c3 := (hR.1.cell (4 * j + 3)).trans (cells8_get k (4 * j + 3) (by have := HK.out; omega))
      have cj := (hR.2.2.2.1.cell (4 + j)).trans (cells_get _ (4 + j) (by rw [putWs_len]; show 4 + j < 16; omega))
      have fj := hR.2.2.2.1.frozen (4 + j)
      have H0 := Lib.hid c0
      have H1 := Lib.hid c1
      have H2 := Lib.hid c2
      have H3 := Lib.hid c3
      clear c0 c1 c2 c3
      go_wp2_with (go_at_call 78; refine (word_any _ _ _ _ _ _ _ _ _ (by omega) H0.out H1.out H2.out H3.out).mono ?_; rintro e w' ⟨rfl, rfl⟩)
      go_roundw
      case rel => exact ⟨j + 1, by omega, by go_num, (hR.put (4 + j) (wdAt k (4 * j))).drew⟩
      case measure => simp [intOf]; omega
    · obtain rfl : j = 8 := by omega
      rw [show ((8 : Nat) : Int) = 8 from rfl]
      have cj := (hR.2.2.2.1.cell 12).trans (cells_get _ 12 (by rw [putWs_len]; decide))
      have fj := hR.2.2.2.1.frozen 12
      go_wp2
      have hR2 := hR.put 12 n
      generalize wr.setCell { block := w.heap.size + 1 + 1 + 1, off := 12 } (.int .u32 (nm n)) = w2 at *
      clear hR cj fj
      go_loopw [24] (fun i wr => ∃ j : Nat, j ≤ 3 ∧ i = .int .i64 j ∧ FRel k nonce (putWs nonce 13 ((putWs k 4 base16 8).set 12 n) j) w wr) (fun i _ => 3 - (intOf i).toNat)
      case atStart => exact ⟨0, by omega, rfl, hR2⟩
      case round =>
        obtain ⟨j, hj, rfl, hR⟩ := hrel
        by_cases hlt : j < 3
        · have hlt' : (j : Int) < 3 := by omega
          have hsl := run_sliceArr_l Tryd.underlying24 size8 (w.heap.size + 1) 0 (4 * (j : Int)) (by omega) (by omega)
          rw [show 0 + (4 * (j : Int)).toNat = 4 * j by omega] at hsl
          have c0 := (hR.2.1.cell (4 * j)).trans (cells8_get nonce (4 * j) (by have := HN.out; omega))
          have c1 := (hR.2.1.cell (4 * j + 1)).trans (cells8_get nonce (4 * j + 1) (by have := HN.out; omega))
          have c2 := (hR.2.1.cell (4 * j + 2)).trans (cells8_get nonce (4 * j + 2) (by have := HN.out; omega))
          have c3 := (hR.2.1.cell (4 * j + 3)).trans (cells8_get nonce (4 * j + 3) (by have := HN.out; omega))
          have cj := (hR.2.2.2.1.cell (13 + j)).trans (cells_get _ (13 + j) (by rw [putWs_len, List.length_set, putWs_len]; show 13 + j < 16; omega))
          have fj := hR.2.2.2.1.frozen (13 + j)
          have H0 := Lib.hid c0
          have H1 := Lib.hid c1
          have H2 := Lib.hid c2
          have H3 := Lib.hid c3
          clear c0 c1 c2 c3
          go_wp2_with (go_at_call 78; refine (word_any _ _ _ _ _ _ _ _ _ (by omega) H0.out H1.out H2.out H3.out).mono ?_; rintro e w' ⟨rfl, rfl⟩)
          go_roundw
          case rel => exact ⟨j + 1, by omega, by go_num, (hR.put (13 + j) (wdAt nonce (4 * j))).drew⟩
          case measure => simp [intOf]; omega
        · obtain rfl : j = 3 := by omega
          obtain ⟨h1, h2, ⟨zs, h3, hz⟩, h4, h5⟩ := hR
          have e16 : (cells (putWs nonce 13 ((putWs k 4 base16 8).set 12 n) 3)).size = 16 := by rw [cells_size]; exact fst16_len k nonce n
          have HS := Lib.hid e16
          clear e16
          go_wp2_with (first | (refine wpList_loadB rfl 104 (.tmp 7) rfl (w.heap.size + 1 + 1 + 1) rfl h4 Tryd.underlying104 rfl size16w HS.out ?_) | (refine wpList_storeB rfl 104 (.tmp 6) (.tmp 35) rfl (w.heap.size + 1 + 1) _ rfl rfl h3 size16w HS.out hz (cells_one _) ?_))
          refine bodyPost_ret (results_B rfl _ (g := w.heap.size + 1 + 1) rfl (h3.row _) Tryd.underlying104 rfl size16w HS.out) rfl ⟨rfl, below_row h5 (by omega) _⟩
end Go.Proofs.YtilbebjjmnncdaaDoor
