/- The walk of cipher.Block: it returns the bytes of 'chacha'. -/
import Derived.Test.YtilbebjjmnncdaaDoorFirst
import Derived.Test.YtilbebjjmnncdaaDoorQr
namespace Go.Proofs.YtilbebjjmnncdaaDoor
open Go.RowKit

theorem size32k : (Tryd.prog.info? 23).map (·.size) = some 32 := by kernel_rfl
theorem size12b : (Tryd.prog.info? 24).map (·.size) = some 12 := by kernel_rfl
theorem size64b : (Tryd.prog.info? 63).map (·.size) = some 64 := by kernel_rfl

theorem size32w (w : World) : (sizeOf 58).run Tryd.prog w = .ok 1 w := by kernel_rfl
/-- the world while bytes are laid. -/
def CRel (p r : Nat) (f : List Wd) (o : List UInt8) (w wr : World) : Prop :=
  (∃ zs, Blk wr (w.heap.size + 1 + 1) 63 zs ∧ zs.size = 64) ∧ Blk wr p 104 (cells f) ∧ Blk wr r 63 (cells8 o) ∧ Below w.heap.size w wr
theorem CRel.put {p r : Nat} {f : List Wd} {o : List UInt8} {w wr : World} (h : CRel p r f o w wr) (hr : w.heap.size + 1 + 1 < p) (hp : p < r) (i : Nat) (x : UInt8) :
    CRel p r f (o.set i x) w (wr.setCell ⟨r, i, none⟩ (.int .u8 (x.toNat : Int))) := by
  obtain ⟨⟨zs, h1, hz⟩, h2, h3, h5⟩ := h
  refine ⟨⟨zs, h1.far (by dsimp only; omega) _, hz⟩, h2.far (by dsimp only; omega) _, ?_, h5.setCell (by dsimp only; omega) _⟩
  rw [← cells8_set]; exact h3.set_ i _
/-- the world between the rounds. -/
def BRel (p : Nat) (f v : List Wd) (w wr : World) : Prop :=
  (∃ zs, Blk wr (w.heap.size + 1 + 1) 63 zs ∧ zs.size = 64) ∧ Blk wr p 104 (cells f) ∧ Blk wr (p + 1) 104 (cells v) ∧ Below w.heap.size w wr

set_option maxRecDepth 100000 in
set_option maxHeartbeats 1000000 in
theorem block_any (k nonce : List UInt8) (n : Wd) (w : World) (hk : k.length = 32) (hn : nonce.length = 12) :
    Calls Tryd.prog 54 #[.agg (cells8 k), .agg (cells8 nonce), .int .u32 (nm n)] w fun e w' =>
      e = .returned (.agg (cells8 (chacha k nonce n))) ∧ Below w.heap.size w w' := by
  have HK := Lib.hid hk
  have HN := Lib.hid hn
  have HL : Hid ((cells (fst16 k nonce n)).size = 16) := Lib.hid (by rw [cells_size, fst16_len])
  have HK8 : Hid ((cells8 k).size = 32) := Lib.hid (by rw [cells8_size]; exact hk)
  have HN8 : Hid ((cells8 nonce).size = 12) := Lib.hid (by rw [cells8_size]; exact hn)
  clear hk hn
  have hb0 : ∀ o, Blk (((w.alloc (.cells (cells8 k) 23)).alloc (.cells (cells8 nonce) 24)).alloc o) w.heap.size 23 (cells8 k) := fun o => ((Blk.new _ _ _).alloc _).alloc _
  have hb1 : ∀ o, Blk (((w.alloc (.cells (cells8 k) 23)).alloc (.cells (cells8 nonce) 24)).alloc o) (w.heap.size + 1) 24 (cells8 nonce) := fun o => (Blk.newAt _ _ _ (by simp)).alloc _
  have H0 := Lib.hid hb0
  have H1 := Lib.hid hb1
  clear hb0 hb1
  go_enter Tryd.func54, Tryd.ntmps54
  go_wp2_with (first | (refine wpList_loadB rfl 23 (.tmp 3) rfl w.heap.size rfl (H0.out _) Tryd.underlying23 rfl size32k HK8.out ?_) | (refine wpList_loadB rfl 24 (.tmp 4) rfl (w.heap.size + 1) rfl (H1.out _) Tryd.underlying24 rfl size12b HN8.out ?_))
  refine (first_any k nonce n _ HK.out HN.out).mono ?_
  rintro e w1 ⟨rfl, hb⟩
  have hB : Below w.heap.size w w1 := ((((Below.refl _ _).alloc (Nat.le_refl _) _).alloc (by simp) _).alloc (by simp; omega) _).trans (hb.mono (by simp; omega))
  have hz : ∃ zs, Blk w1 (w.heap.size + 1 + 1) 63 zs ∧ zs.size = 64 := ⟨_, (Blk.newAt _ _ _ (by simp)).below hb (by simp), rfl⟩
  have hs1 : w.heap.size + 1 + 1 < w1.heap.size := by have := hb.size; simp at this; omega
  clear hb H0 H1
  go_wp2_with (first | (refine wpList_storeNew rfl 104 (.tmp 7) (.tmp 17) rfl w1 w1.heap.size rfl rfl _ rfl rfl size16w HL.out rfl (cells_one _) ?_) | (refine wpList_loadNew rfl 104 (.tmp 7) rfl w1 w1.heap.size rfl rfl rfl Tryd.underlying104 rfl size16w HL.out ?_) | (refine wpList_storeNew rfl 104 (.tmp 8) (.tmp 18) rfl _ (w1.heap.size + 1) (World.size_alloc _ _) rfl _ rfl rfl size16w HL.out rfl (cells_one _) ?_))
  generalize hp : w1.heap.size = p at *
  have hpp : Blk ((w1.alloc (Obj.cells (cells (fst16 k nonce n)) 104)).alloc (Obj.cells (cells (fst16 k nonce n)) 104)) p 104 (cells (fst16 k nonce n)) := (Blk.newAt _ _ _ hp).alloc _
  have hqq : Blk ((w1.alloc (Obj.cells (cells (fst16 k nonce n)) 104)).alloc (Obj.cells (cells (fst16 k nonce n)) 104)) (p + 1) 104 (cells (fst16 k nonce n)) := Blk.newAt _ _ _ (by simp [hp])
  have hzz : ∃ zs, Blk ((w1.alloc (Obj.cells (cells (fst16 k nonce n)) 104)).alloc (Obj.cells (cells (fst16 k nonce n)) 104)) (w.heap.size + 1 + 1) 63 zs ∧ zs.size = 64 := by
    obtain ⟨zs, h1, h2⟩ := hz
    exact ⟨zs, (h1.alloc _).alloc _, h2⟩
  have hBB : Below w.heap.size w ((w1.alloc (Obj.cells (cells (fst16 k nonce n)) 104)).alloc (Obj.cells (cells (fst16 k nonce n)) 104)) := (hB.alloc (by omega) _).alloc (by simp; omega) _
  have hR0 : BRel p (fst16 k nonce n) (fst16 k nonce n) w ((w1.alloc (Obj.cells (cells (fst16 k nonce n)) 104)).alloc (Obj.cells (cells (fst16 k nonce n)) 104)) := ⟨hzz, hpp, hqq, hBB⟩
  clear hpp hqq hzz hBB hz hB hp
  generalize (w1.alloc (Obj.cells (cells (fst16 k nonce n)) 104)).alloc (Obj.cells (cells (fst16 k nonce n)) 104) = wa at *
  go_loopw [20] (fun i wr => ∃ j : Nat, j ≤ 10 ∧ i = .int .i64 j ∧ BRel p (fst16 k nonce n) (rnds (fst16 k nonce n) j) w wr) (fun i _ => 10 - (intOf i).toNat)
  case atStart => exact ⟨0, by omega, rfl, hR0⟩
  case round =>
    clear hR0
    obtain ⟨j, hj, rfl, hR⟩ := hrel
    by_cases hlt : j < 10
    · have hlt' : (j : Int) < 10 := by omega
      obtain ⟨v, hv⟩ : ∃ v, v = rnds (fst16 k nonce n) j := ⟨_, rfl⟩
      rw [← hv] at hR
      have hl : v.length = 16 := by rw [hv, rnds_len, fst16_len]
      have HV := Lib.hid hv
      clear hv
      obtain ⟨hq, hp, hB0, hbel⟩ := hR
      have hG0 : wr.grownBy wr (some (p + 1)) := grown_refl _ _
      go_wp2_with fail
      refine (qr_any (p + 1) 0 4 8 12 v _ (by omega) (by omega) (by omega) (by omega) hl hB0).mono ?_
      rintro e w2 ⟨rfl, hB1, hg⟩
      have hG1 := grown_trans hG0 hg
      have hl1 : (qr v 0 4 8 12).length = 16 := by rw [qr_len]; exact hl
      obtain ⟨v1, hv⟩ : ∃ v1, v1 = qr v 0 4 8 12 := ⟨_, rfl⟩
      rw [← hv] at hB1 hl1
      have HV1 := Lib.hid hv
      clear hv hg hG0 hB0
      go_wp2_with fail
      refine (qr_any (p + 1) 1 5 9 13 v1 _ (by omega) (by omega) (by omega) (by omega) hl1 hB1).mono ?_
      rintro e w3 ⟨rfl, hB2, hg⟩
      have hG2 := grown_trans hG1 hg
      have hl2 : (qr v1 1 5 9 13).length = 16 := by rw [qr_len]; exact hl1
      obtain ⟨v2, hv⟩ : ∃ v2, v2 = qr v1 1 5 9 13 := ⟨_, rfl⟩
      rw [← hv] at hB2 hl2
      have HV2 := Lib.hid hv
      clear hv hg hG1 hB1
      go_wp2_with fail
      refine (qr_any (p + 1) 2 6 10 14 v2 _ (by omega) (by omega) (by omega) (by omega) hl2 hB2).mono ?_
      rintro e w4 ⟨rfl, hB3, hg⟩
      have hG3 := grown_trans hG2 hg
      have hl3 : (qr v2 2 6 10 14).length = 16 := by rw [qr_len]; exact hl2
      obtain ⟨v3, hv⟩ : ∃ v3, v3 = qr v2 2 6 10 14 := ⟨_, rfl⟩
      rw [← hv] at hB3 hl3
      have HV3 := Lib.hid hv
      clear hv hg hG2 hB2
      go_wp2_with fail
      refine (qr_any (p + 1) 3 7 11 15 v3 _ (by omega) (by omega) (by omega) (by omega) hl3 hB3).mono ?_
      rintro e w5 ⟨rfl, hB4, hg⟩
      have hG4 := grown_trans hG3 hg
      have hl4 : (qr v3 3 7 11 15).length = 16 := by rw [qr_len]; exact hl3
      obtain ⟨v4, hv⟩ : ∃ v4, v4 = qr v3 3 7 11 15 := ⟨_, rfl⟩
      rw [← hv] at hB4 hl4
      have HV4 := Lib.hid hv
      clear hv hg hG3 hB3
      go_wp2_with fail
      refine (qr_any (p + 1) 0 5 10 15 v4 _ (by omega) (by omega) (by omega) (by omega) hl4 hB4).mono ?_
      rintro e w6 ⟨rfl, hB5, hg⟩
      have hG5 := grown_trans hG4 hg
      have hl5 : (qr v4 0 5 10 15).length = 16 := by rw [qr_len]; exact hl4
      obtain ⟨v5, hv⟩ : ∃ v5, v5 = qr v4 0 5 10 15 := ⟨_, rfl⟩
      rw [← hv] at hB5 hl5
      have HV5 := Lib.hid hv
      clear hv hg hG4 hB4
      go_wp2_with fail
      refine (qr_any (p + 1) 1 6 11 12 v5 _ (by omega) (by omega) (by omega) (by omega) hl5 hB5).mono ?_
      rintro e w7 ⟨rfl, hB6, hg⟩
      have hG6 := grown_trans hG5 hg
      have hl6 : (qr v5 1 6 11 12).length = 16 := by rw [qr_len]; exact hl5
      obtain ⟨v6, hv⟩ : ∃ v6, v6 = qr v5 1 6 11 12 := ⟨_, rfl⟩
      rw [← hv] at hB6 hl6
      have HV6 := Lib.hid hv
      clear hv hg hG5 hB5
      go_wp2_with fail
      refine (qr_any (p + 1) 2 7 8 13 v6 _ (by omega) (by omega) (by omega) (by omega) hl6 hB6).mono ?_
      rintro e w8 ⟨rfl, hB7, hg⟩
      have hG7 := grown_trans hG6 hg
      have hl7 : (qr v6 2 7 8 13).length = 16 := by rw [qr_len]; exact hl6
      obtain ⟨v7, hv⟩ : ∃ v7, v7 = qr v6 2 7 8 13 := ⟨_, rfl⟩
      rw [← hv] at hB7 hl7
      have HV7 := Lib.hid hv
      clear hv hg hG6 hB6
      go_wp2_with fail
      refine (qr_any (p + 1) 3 4 9 14 v7 _ (by omega) (by omega) (by omega) (by omega) hl7 hB7).mono ?_
      rintro e w9 ⟨rfl, hB8, hg⟩
      have hG8 := grown_trans hG7 hg
      have hl8 : (qr v7 3 4 9 14).length = 16 := by rw [qr_len]; exact hl7
      obtain ⟨v8, hv⟩ : ∃ v8, v8 = qr v7 3 4 9 14 := ⟨_, rfl⟩
      rw [← hv] at hB8 hl8
      have HV8 := Lib.hid hv
      clear hv hg hG7 hB7
      go_wp2_with fail
      have e : rnds (fst16 k nonce n) (j + 1) = v8 := by
        rw [HV8.out, HV7.out, HV6.out, HV5.out, HV4.out, HV3.out, HV2.out, HV1.out, HV.out]; rfl
      have hR' : BRel p (fst16 k nonce n) (rnds (fst16 k nonce n) (j + 1)) w w9 := by
        rw [e]
        obtain ⟨zs, hz1, hz2⟩ := hq
        exact ⟨⟨zs, hz1.grown hG8 (by simp; omega), hz2⟩, hp.grown hG8 (by simp), hB8, below_grown hbel hG8 (by omega) (by have := hbel.size; omega)⟩
      clear e HV HV1 HV2 HV3 HV4 HV5 HV6 HV7 HV8
      go_roundw
      case rel => exact ⟨j + 1, by omega, by go_num, hR'⟩
      case measure => simp [intOf]; omega
    · obtain rfl : j = 10 := by omega
      rw [show ((10 : Nat) : Int) = 10 from rfl]
      have hl : (rnds (fst16 k nonce n) 10).length = 16 := by rw [rnds_len, fst16_len]
      have hf : (fst16 k nonce n).length = 16 := fst16_len _ _ _
      have hfin : chacha k nonce n = outs (rnds (fst16 k nonce n) 10) (fst16 k nonce n) 64 := rfl
      generalize rnds (fst16 k nonce n) 10 = v at *
      generalize fst16 k nonce n = f at *
      have HF := Lib.hid hfin
      have HLV := Lib.hid hl
      have HLF := Lib.hid hf
      have HCV : Hid ((cells v).size = 16) := Lib.hid (by rw [cells_size, hl])
      clear hfin hl hf
      obtain ⟨⟨zs, hz1, hz2⟩, hp, hB, hbel⟩ := hR
      have hB1 := fun o => hB.alloc o
      have HB1 := Lib.hid hB1
      clear hB1
      go_wp2_with (refine wpList_loadB rfl 104 (.tmp 8) rfl (p + 1) rfl (HB1.out _) Tryd.underlying104 rfl size16w HCV.out ?_)
      have hr1 : p + 1 < wr.heap.size := hB.lt
      change Code.wp _ _ _ _ (wr.alloc (.cells (cells8 (outs v f 0)) 63))
      have hR1 : CRel p wr.heap.size f (outs v f 0) w (wr.alloc (.cells (cells8 (outs v f 0)) 63)) :=
        ⟨⟨zs, hz1.alloc _, hz2⟩, hp.alloc _, Blk.new _ _ _, hbel.alloc (by omega) _⟩
      clear hz1 hz2 hp hB hbel HB1
      generalize wr.alloc (.cells (cells8 (outs v f 0)) 63) = wb at *
      generalize wr.heap.size = r at *
      go_loopw [40] (fun i wr => ∃ j : Nat, j ≤ 16 ∧ i = .int .i64 j ∧ CRel p r f (outs v f (4 * j)) w wr) (fun i _ => 16 - (intOf i).toNat)
      case atStart => exact ⟨0, by omega, rfl, hR1⟩
      case round =>
        clear hR1
        obtain ⟨i, hi, rfl, hR⟩ := hrel
        by_cases hlt : i < 16
        · have hlt' : (i : Int) < 16 := by omega
          have hix := run_indexAgg Tryd.underlying104 Tryd.underlying58 rfl size32w (cells v) i hlt _ (cells_get v i (by have := HLV.out; omega)) .i64
          have hc := (hR.2.1.cell i).trans (cells_get f i (by have := HLF.out; omega))
          go_wp2
          obtain ⟨wo, hwo⟩ : ∃ wo : World, wo = wr := ⟨_, rfl⟩
          rw [← hwo] at hR hc ⊢
          clear hwo
          obtain ⟨x, hx⟩ : ∃ x, x = gt v i + gt f i := ⟨_, rfl⟩
          rw [nm_add', ← hx]
          have HX := Lib.hid hx
          clear hx hix hc
          go_loopw [49] (fun t wr => ∃ j : Nat, j ≤ 4 ∧ t = .int .i64 j ∧ CRel p r f (outs v f (4 * i + j)) w wr) (fun t _ => 4 - (intOf t).toNat)
          case atStart => exact ⟨0, by omega, rfl, hR⟩
          case round =>
            clear hR
            obtain ⟨j, hj, rfl, hR⟩ := hrel
            by_cases hlt2 : j < 4
            · have hlt2' : (j : Int) < 4 := by omega
              have cj := (hR.2.2.1.cell (4 * i + j)).trans (cells8_get _ (4 * i + j) (by rw [outs_len]; omega))
              have fj := hR.2.2.1.frozen (4 * i + j)
              go_wp2
              go_roundw
              case rel =>
                refine ⟨j + 1, by omega, by go_num, ?_⟩
                rw [byteOf_eq', HX.out]
                have h1 : (4 * i + j) / 4 = i := by omega
                have h2 : (4 * i + j) % 4 = j := by omega
                have h := hR.put (by omega) (by omega) (4 * i + j) (byteOf (gt v i + gt f i) j)
                have e : outs v f (4 * i + (j + 1)) = (outs v f (4 * i + j)).set (4 * i + j) (byteOf (gt v i + gt f i) j) := by
                  show (outs v f (4 * i + j)).set (4 * i + j) (byteOf (gt v ((4 * i + j) / 4) + gt f ((4 * i + j) / 4)) ((4 * i + j) % 4)) = _
                  rw [h1, h2]
                rw [e]; exact h
              case measure => simp [intOf]; omega
            · obtain rfl : j = 4 := by omega
              go_wp2
              go_roundw
              case rel => exact ⟨i + 1, by omega, by go_num, hR⟩
              case measure => simp [intOf]; omega
        · obtain rfl : i = 16 := by omega
          obtain ⟨⟨zs, hz1, hz2⟩, hp, hB, hbel⟩ := hR
          have hs : (cells8 (outs v f 64)).size = 64 := by rw [cells8_size, outs_len]
          have HS := Lib.hid hs
          clear hs
          go_wp2_with (first | (refine wpList_loadB rfl 63 (.tmp 10) rfl r rfl hB Tryd.underlying63 rfl size64b HS.out ?_) | (refine wpList_storeB rfl 63 (.tmp 6) (.tmp 64) rfl (w.heap.size + 1 + 1) _ rfl rfl hz1 size64b HS.out hz2 (cells8_one _) ?_))
          rw [HF.out]
          refine bodyPost_ret (results_B rfl _ (g := w.heap.size + 1 + 1) rfl (hz1.row _) Tryd.underlying63 rfl size64b HS.out) rfl ⟨rfl, below_row hbel (by omega) _⟩
end Go.Proofs.YtilbebjjmnncdaaDoor
