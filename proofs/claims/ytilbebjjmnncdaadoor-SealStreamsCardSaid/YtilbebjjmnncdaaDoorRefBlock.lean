/- The walk of the reference's Block: it returns the bytes of 'chacha'. -/
import Derived.Test.YtilbebjjmnncdaaDoorRefHalf
import Derived.Test.YtilbebjjmnncdaaDoorFirst
import Derived.Test.YtilbebjjmnncdaaDoorOwn
import Derived.Laws.IdiomStrings
namespace Go.Proofs.YtilbebjjmnncdaaDoor
open Go.RowKit

theorem size64r : (Tryd.prog.info? 63).map (·.size) = some 64 := by kernel_rfl
theorem rword_at (l : List UInt8) (p : Nat) (ip : Int) (e : ip = p) (hp : p + 4 ≤ l.length) (hl : l.length < 4294967296) (w : World) :
    Calls Tryd.prog 70 #[.string ⟨l.toArray⟩, .int .i64 ip] w fun e w' => e = .returned (.int .u64 (nm (wdAt l p))) ∧ w' = w.drew := by
  subst e; exact rword_any l p hp hl w
theorem u64_nm (x : Wd) : IntKind.u64.wrap (nm x) = nm x := by
  rw [wrap_u64]; have := nm_nonneg x; have := nm_lt x; omega
/-- the world at a round's head. -/
def GRel (k nonce : List UInt8) (v : List Wd) (w wr : World) : Prop :=
  Blk wr w.heap.size 23 (cells8 k) ∧ Blk wr (w.heap.size + 1) 24 (cells8 nonce) ∧ (∃ zs, Blk wr (w.heap.size + 1 + 1) 63 zs ∧ zs.size = 64) ∧
  Blk wr (w.heap.size + 1 + 1 + 1) 108 (cells64 v) ∧ Below w.heap.size w wr
theorem GRel.put {k nonce : List UInt8} {v : List Wd} {w wr : World} (h : GRel k nonce v w wr) (i : Nat) (x : Wd) :
    GRel k nonce (v.set i x) w (wr.setCell ⟨w.heap.size + 1 + 1 + 1, i, none⟩ (.int .u64 (nm x))) := by
  obtain ⟨h1, h2, ⟨zs, h3, hz⟩, h4, h5⟩ := h
  refine ⟨h1.far (by dsimp only; omega) _, h2.far (by dsimp only; omega) _, ⟨zs, h3.far (by dsimp only; omega) _, hz⟩, ?_, h5.setCell (by dsimp only; omega) _⟩
  rw [← cells64_set]; exact h4.set_ i _
theorem GRel.drew {k nonce : List UInt8} {v : List Wd} {w wr : World} (h : GRel k nonce v w wr) : GRel k nonce v w wr.drew := by
  obtain ⟨h1, h2, ⟨zs, h3, hz⟩, h4, h5⟩ := h
  exact ⟨h1, h2, ⟨zs, h3, hz⟩, h4, h5.drew⟩

/-- four columns, four diagonals. -/
def colA (v : List Wd) : Nat → List Wd
  | 0 => v
  | c + 1 => qr (colA v c) c (4 + c) (8 + c) (12 + c)
def diaB (v : List Wd) : Nat → List Wd
  | 0 => v
  | c + 1 => qr (diaB v c) c (4 + (c + 1) % 4) (8 + (c + 2) % 4) (12 + (c + 3) % 4)
theorem dbl_eq (v : List Wd) : diaB (colA v 4) 4 = dbl v := rfl
theorem colA_len (v : List Wd) (c : Nat) : (colA v c).length = v.length := by
  induction c with
  | zero => rfl
  | succ c ih => simp [colA, qr_len, ih]
theorem diaB_len (v : List Wd) (c : Nat) : (diaB v c).length = v.length := by
  induction c with
  | zero => rfl
  | succ c ih => simp [diaB, qr_len, ih]
/-- the world while bytes are laid. -/
def MRel (p r : Nat) (f v : List Wd) (o : List UInt8) (w wr : World) : Prop :=
  (∃ zs, Blk wr (w.heap.size + 1 + 1) 63 zs ∧ zs.size = 64) ∧ Blk wr (w.heap.size + 1 + 1 + 1) 108 (cells64 f) ∧ Blk wr p 108 (cells64 v) ∧ Blk wr r 63 (cells8 o) ∧ Below w.heap.size w wr
theorem MRel.put {p r : Nat} {f v : List Wd} {o : List UInt8} {w wr : World} (h : MRel p r f v o w wr) (hr : w.heap.size + 1 + 1 + 1 < p) (hp : p < r) (i : Nat) (x : UInt8) :
    MRel p r f v (o.set i x) w (wr.setCell ⟨r, i, none⟩ (.int .u8 (x.toNat : Int))) := by
  obtain ⟨⟨zs, h1, hz⟩, h2, h3, h4, h5⟩ := h
  refine ⟨⟨zs, h1.far (by dsimp only; omega) _, hz⟩, h2.far (by dsimp only; omega) _, h3.far (by dsimp only; omega) _, ?_, h5.setCell (by dsimp only; omega) _⟩
  rw [← cells8_set]; exact h4.set_ i _
theorem MRel.drew {p r : Nat} {f v : List Wd} {o : List UInt8} {w wr : World} (h : MRel p r f v o w wr) : MRel p r f v o w wr.drew := by
  obtain ⟨⟨zs, h1, hz⟩, h2, h3, h4, h5⟩ := h
  exact ⟨⟨zs, h1, hz⟩, h2, h3, h4, h5.drew⟩
/-- the world between the steps. -/
def KRel (p : Nat) (f v : List Wd) (w wr : World) : Prop :=
  (∃ zs, Blk wr (w.heap.size + 1 + 1) 63 zs ∧ zs.size = 64) ∧ Blk wr (w.heap.size + 1 + 1 + 1) 108 (cells64 f) ∧ Blk wr p 108 (cells64 v) ∧ Below w.heap.size w wr
theorem KRel.step {p : Nat} {f v v' : List Wd} {w wr w1 : World} (h : KRel p f v w wr) (hp : w.heap.size + 1 + 1 + 1 < p) (hb : Below wr.heap.size wr w1) :
    KRel p f v' w (w1.setRow p (cells64 v')) ∧ Blk w1 p 108 (cells64 v) := by
  obtain ⟨⟨zs, h1, hz⟩, h2, h3, h5⟩ := h
  have h3' := h3.below hb h3.lt
  exact ⟨⟨⟨zs, (h1.below hb h1.lt).rowFar (by omega) _, hz⟩, (h2.below hb h2.lt).rowFar (by omega) _, h3'.row _, below_row (h5.trans (hb.mono h5.size)) (by omega) _⟩, h3'⟩

set_option maxRecDepth 100000 in
set_option maxHeartbeats 2000000 in
theorem rblock_any (k nonce : List UInt8) (n : Wd) (w : World) (hk : k.length = 32) (hn : nonce.length = 12) :
    Calls Tryd.prog 55 #[.agg (cells8 k), .agg (cells8 nonce), .int .u32 (nm n)] w fun e w' =>
      e = .returned (.agg (cells8 (chacha k nonce n))) ∧ Below w.heap.size w w' := by
  have HK := Lib.hid hk
  have HN := Lib.hid hn
  clear hk hn
  have hn0 := nm_nonneg n
  have hn1 := nm_lt n
  go_enter Tryd.func55, Tryd.ntmps55
  go_wp2
  have hR0 : GRel k nonce (putWs k 4 base16 0) w ((((w.alloc (.cells (cells8 k) 23)).alloc (.cells (cells8 nonce) 24)).alloc (.cells (cells8 (List.replicate 64 0)) 63)).alloc (.cells (cells64 base16) 108)) :=
    ⟨(((Blk.new w _ _).alloc _).alloc _).alloc _, ((Blk.newAt _ _ _ (by simp)).alloc _).alloc _, ⟨_, (Blk.newAt _ _ _ (by simp)).alloc _, by rw [cells8_size]; rfl⟩, Blk.newAt _ _ _ (by simp),
     ((((Below.refl _ _).alloc (by simp) _).alloc (by simp) _).alloc (by simp; omega) _).alloc (by simp; omega) _⟩
  change Code.wp _ _ _ _ ((((w.alloc (.cells (cells8 k) 23)).alloc (.cells (cells8 nonce) 24)).alloc (.cells (cells8 (List.replicate 64 0)) 63)).alloc (.cells (cells64 base16) 108))
  generalize (((w.alloc (.cells (cells8 k) 23)).alloc (.cells (cells8 nonce) 24)).alloc (.cells (cells8 (List.replicate 64 0)) 63)).alloc (.cells (cells64 base16) 108) = wa at *
  go_loopw [8] (fun i wr => ∃ j : Nat, j ≤ 8 ∧ i = .int .i64 j ∧ GRel k nonce (putWs k 4 base16 j) w wr) (fun i _ => 8 - (intOf i).toNat)
  case atStart => exact ⟨0, by omega, rfl, hR0⟩
  case round =>
    clear hR0
    obtain ⟨j, hj, rfl, hR⟩ := hrel
    by_cases hlt : j < 8
    · have hlt' : (j : Int) < 8 := by omega
      have hsl := run_sliceArr_all Tryd.underlying23 size8 w.heap.size 0 (by omega)
      have hcv := run_strBlk (cap := 32) HK.out hR.1
      have cj := (hR.2.2.2.1.cell (4 + j)).trans (cells64_get _ (4 + j) (by rw [putWs_len]; show 4 + j < 16; omega))
      have fj := hR.2.2.2.1.frozen (4 + j)
      go_wp2_with fail
      refine (rword_at k (4 * j) _ (by omega) (by have := HK.out; omega) (by have := HK.out; omega) _).mono ?_
      rintro e w' ⟨rfl, rfl⟩
      go_wp2
      go_roundw
      case rel => exact ⟨j + 1, by omega, by go_num, (hR.put (4 + j) (wdAt k (4 * j))).drew⟩
      case measure => simp [intOf]; omega
    · obtain rfl : j = 8 := by omega
      rw [show ((8 : Nat) : Int) = 8 from rfl]
      have cj := (hR.2.2.2.1.cell 12).trans (cells64_get _ 12 (by rw [putWs_len]; decide))
      have fj := hR.2.2.2.1.frozen 12
      go_wp2
      have hR2 := hR.put 12 n
      generalize wr.setCell { block := w.heap.size + 1 + 1 + 1, off := 12 } (.int .u64 (nm n)) = w2 at *
      clear hR cj fj
      go_loopw [9] (fun i wr => ∃ j : Nat, j ≤ 3 ∧ i = .int .i64 j ∧ GRel k nonce (putWs nonce 13 ((putWs k 4 base16 8).set 12 n) j) w wr) (fun i _ => 3 - (intOf i).toNat)
      case atStart => exact ⟨0, by omega, rfl, hR2⟩
      case round =>
        obtain ⟨j, hj, rfl, hR⟩ := hrel
        by_cases hlt : j < 3
        · have hlt' : (j : Int) < 3 := by omega
          have hsl := run_sliceArr_all Tryd.underlying24 size8 (w.heap.size + 1) 0 (by omega)
          have hcv := run_strBlk (cap := 12) HN.out hR.2.1
          have cj := (hR.2.2.2.1.cell (13 + j)).trans (cells64_get _ (13 + j) (by rw [putWs_len, List.length_set, putWs_len]; show 13 + j < 16; omega))
          have fj := hR.2.2.2.1.frozen (13 + j)
          go_wp2_with fail
          refine (rword_at nonce (4 * j) _ (by omega) (by have := HN.out; omega) (by have := HN.out; omega) _).mono ?_
          rintro e w' ⟨rfl, rfl⟩
          go_wp2
          go_roundw
          case rel => exact ⟨j + 1, by omega, by go_num, (hR.put (13 + j) (wdAt nonce (4 * j))).drew⟩
          case measure => simp [intOf]; omega
        · as_aux_lemma =>
          obtain rfl : j = 3 := by omega
          rw [show ((3 : Nat) : Int) = 3 from rfl]
          obtain ⟨h1, h2, hz, h4, h5⟩ := hR
          clear h1 h2
          have hfl := fst16_len k nonce n
          change Blk wr (w.heap.size + 1 + 1 + 1) 108 (cells64 (fst16 k nonce n)) at h4
          have hfin : chacha k nonce n = outs (rnds (fst16 k nonce n) 10) (fst16 k nonce n) 64 := rfl
          generalize fst16 k nonce n = f at *
          have HF := Lib.hid hfin
          have HLF := Lib.hid hfl
          have HS : Hid ((cells64 f).size = 16) := Lib.hid (by rw [cells64_size]; exact hfl)
          clear hfin hfl
          go_wp2_with (first | (refine wpList_loadB rfl 108 (.tmp 7) rfl (w.heap.size + 1 + 1 + 1) rfl h4 Tryd.underlying108 rfl size16q HS.out ?_) | (refine wpList_storeNew rfl 108 (.tmp 10) (.tmp 46) rfl wr wr.heap.size rfl rfl _ rfl rfl size16q HS.out rfl (cells64_one _) ?_))
          have hlt0 : w.heap.size + 1 + 1 + 1 < wr.heap.size := h4.lt
          have hR0 : KRel wr.heap.size f (rnds f 0) w (wr.alloc (.cells (cells64 f) 108)) := by
            obtain ⟨zs, hz1, hz2⟩ := hz
            exact ⟨⟨zs, hz1.alloc _, hz2⟩, h4.alloc _, Blk.new _ _ _, h5.alloc (by omega) _⟩
          clear hz h4 h5 HS
          generalize wr.alloc (.cells (cells64 f) 108) = wb at *
          generalize wr.heap.size = p at *
          have hp : w.heap.size + 1 + 1 + 1 < p := hlt0
          clear hlt0
          go_loopw [11] (fun i wr => ∃ j : Nat, j ≤ 10 ∧ i = .int .i64 j ∧ KRel p f (rnds f j) w wr) (fun i _ => 10 - (intOf i).toNat)
          case atStart => exact ⟨0, by omega, rfl, hR0⟩
          case round =>
            clear hR0
            obtain ⟨j, hj, rfl, hR⟩ := hrel
            by_cases hlt : j < 10
            · have hlt' : (j : Int) < 10 := by omega
              go_wp2
              obtain ⟨wo, hwo⟩ : ∃ wo : World, wo = wr := ⟨_, rfl⟩
              rw [← hwo] at hR ⊢
              clear hwo
              have HJ : Hid (rnds f (j + 1) = diaB (colA (rnds f j) 4) 4) := Lib.hid rfl
              have hlv : (rnds f j).length = 16 := by rw [rnds_len]; exact HLF.out
              generalize rnds f j = V at *
              have HLV := Lib.hid hlv
              clear hlv
              go_loopw [12] (fun t wr => ∃ c : Nat, c ≤ 4 ∧ t = .int .i64 c ∧ KRel p f (colA V c) w wr) (fun t _ => 4 - (intOf t).toNat)
              case atStart => exact ⟨0, by omega, rfl, hR⟩
              case round =>
                clear hR
                obtain ⟨c, hc, rfl, hR⟩ := hrel
                by_cases hlt2 : c < 4
                · have hlt2' : (c : Int) < 4 := by omega
                  have hl : (colA V c).length = 16 := by rw [colA_len]; exact HLV.out
                  have hfin : colA V (c + 1) = qr (colA V c) c (4 + c) (8 + c) (12 + c) := rfl
                  generalize colA V c = v at *
                  have HL := Lib.hid hl
                  have HS : Hid ((cells64 v).size = 16) := Lib.hid (by rw [cells64_size]; exact hl)
                  have HFI := Lib.hid hfin
                  clear hl hfin
                  have h3 := hR.2.2.1
                  go_wp2_with (refine wpList_loadB rfl 108 (.tmp 10) rfl p rfl h3 Tryd.underlying108 rfl size16q HS.out ?_)
                  refine (rstep_any c (4 + c) (8 + c) (12 + c) _ _ _ _ v _ (by omega) (by omega) (by omega) (by omega) HL.out (by omega) (by omega) (by omega) (by omega)).mono ?_
                  rintro e w1 ⟨rfl, hb1⟩
                  have hK := hR.step (v' := colA V (c + 1)) hp hb1
                  rw [← HFI.out]
                  have HS2 : Hid ((cells64 (colA V (c + 1))).size = 16) := Lib.hid (by rw [cells64_size, colA_len]; exact HLV.out)
                  obtain ⟨hK1, hK2⟩ := hK
                  have HK1 := Lib.hid hK1
                  clear hK1 hR hb1 h3
                  go_wp2_with (refine wpList_storeB rfl 108 (.tmp 10) (.tmp 63) rfl p _ rfl rfl hK2 size16q HS2.out HS.out (cells64_one _) ?_)
                  go_roundw
                  case rel => exact ⟨c + 1, by omega, by go_num, HK1.out⟩
                  case measure => simp [intOf]; omega
                · obtain rfl : c = 4 := by omega
                  rw [show ((4 : Nat) : Int) = 4 from rfl]
                  go_wp2
                  have hlv : (colA V 4).length = 16 := by rw [colA_len]; exact HLV.out
                  generalize colA V 4 = V at *
                  have HLV := Lib.hid hlv
                  clear hlv
                  obtain ⟨wo, hwo⟩ : ∃ wo : World, wo = wr := ⟨_, rfl⟩
                  rw [← hwo] at hR ⊢
                  clear hwo
                  go_loopw [13] (fun t wr => ∃ c : Nat, c ≤ 4 ∧ t = .int .i64 c ∧ KRel p f (diaB V c) w wr) (fun t _ => 4 - (intOf t).toNat)
                  case atStart => exact ⟨0, by omega, rfl, hR⟩
                  case round =>
                    clear hR
                    obtain ⟨c, hc, rfl, hR⟩ := hrel
                    by_cases hlt2 : c < 4
                    · have hlt2' : (c : Int) < 4 := by omega
                      have hl : (diaB V c).length = 16 := by rw [diaB_len]; exact HLV.out
                      have hfin : diaB V (c + 1) = qr (diaB V c) c (4 + (c + 1) % 4) (8 + (c + 2) % 4) (12 + (c + 3) % 4) := rfl
                      generalize diaB V c = v at *
                      have HL := Lib.hid hl
                      have HS : Hid ((cells64 v).size = 16) := Lib.hid (by rw [cells64_size]; exact hl)
                      have HFI := Lib.hid hfin
                      clear hl hfin
                      have h3 := hR.2.2.1
                      go_wp2_with (refine wpList_loadB rfl 108 (.tmp 10) rfl p rfl h3 Tryd.underlying108 rfl size16q HS.out ?_)
                      refine (rstep_any c (4 + (c + 1) % 4) (8 + (c + 2) % 4) (12 + (c + 3) % 4) _ _ _ _ v _ (by omega) (by omega) (by omega) (by omega) HL.out (by omega) (by omega) (by omega) (by omega)).mono ?_
                      rintro e w1 ⟨rfl, hb1⟩
                      have hK := hR.step (v' := diaB V (c + 1)) hp hb1
                      rw [← HFI.out]
                      have HS2 : Hid ((cells64 (diaB V (c + 1))).size = 16) := Lib.hid (by rw [cells64_size, diaB_len]; exact HLV.out)
                      obtain ⟨hK1, hK2⟩ := hK
                      have HK1 := Lib.hid hK1
                      clear hK1 hR hb1 h3
                      go_wp2_with (refine wpList_storeB rfl 108 (.tmp 10) (.tmp 82) rfl p _ rfl rfl hK2 size16q HS2.out HS.out (cells64_one _) ?_)
                      go_roundw
                      case rel => exact ⟨c + 1, by omega, by go_num, HK1.out⟩
                      case measure => simp [intOf]; omega
                    · obtain rfl : c = 4 := by omega
                      rw [show ((4 : Nat) : Int) = 4 from rfl]
                      rw [← HJ.out] at hR
                      go_wp2
                      go_roundw
                      case rel => exact ⟨j + 1, by omega, by go_num, hR⟩
                      case measure => simp [intOf]; omega
            · as_aux_lemma =>
              obtain rfl : j = 10 := by omega
              rw [show ((10 : Nat) : Int) = 10 from rfl]
              have hl : (rnds f 10).length = 16 := by rw [rnds_len]; exact HLF.out
              generalize rnds f 10 = v at *
              have HLV := Lib.hid hl
              clear hl
              go_wp2_with (refine wpList_storeNew rfl 63 (.tmp 14) (.tmp 83) rfl wr wr.heap.size rfl rfl _ rfl rfl size64r rfl rfl (cells8_one (List.replicate 64 0)) ?_)
              obtain ⟨⟨zs, hz1, hz2⟩, h2, h3, h5⟩ := hR
              have hr : p < wr.heap.size := h3.lt
              change Code.wp _ _ _ _ (wr.alloc (.cells (cells8 (outs v f 0)) 63))
              have hR1 : MRel p wr.heap.size f v (outs v f 0) w (wr.alloc (.cells (cells8 (outs v f 0)) 63)) :=
                ⟨⟨zs, hz1.alloc _, hz2⟩, h2.alloc _, h3.alloc _, Blk.new _ _ _, h5.alloc (by omega) _⟩
              clear hz1 hz2 h2 h3 h5
              generalize wr.alloc (.cells (cells8 (outs v f 0)) 63) = wb at *
              generalize wr.heap.size = r at *
              go_loopw [15] (fun i wr => ∃ j : Nat, j ≤ 16 ∧ i = .int .i64 j ∧ MRel p r f v (outs v f (4 * j)) w wr) (fun i _ => 16 - (intOf i).toNat)
              case atStart => exact ⟨0, by omega, rfl, hR1⟩
              case round =>
                clear hR1
                obtain ⟨i, hi, rfl, hR⟩ := hrel
                by_cases hlt : i < 16
                · have hlt' : (i : Int) < 16 := by omega
                  have hc := (hR.2.1.cell i).trans (cells64_get f i (by have := HLF.out; omega))
                  have hd := (hR.2.2.1.cell i).trans (cells64_get v i (by have := HLV.out; omega))
                  go_wp2
                  refine wp_region_still_lit (by kernel_rfl) (by kernel_rfl) ?_
                  change wpStill _ _ wr.drew _ _ _
                  repeat still_step
                  still_call (radd_any _ _ _)
                  repeat still_step
                  refine wpStill_nil ?_
                  have hR' := hR.drew
                  clear hR hc hd
                  go_wp2
                  change Code.wp _ _ _ _ wr.drew
                  generalize wr.drew = wo at *
                  obtain ⟨x, hx⟩ : ∃ x, x = gt v i + gt f i := ⟨_, rfl⟩
                  rw [← hx]
                  have HX := Lib.hid hx
                  clear hx
                  have hx0 := nm_nonneg x
                  have hx1 := nm_lt x
                  go_loopw [16, 17] (fun y t wr => ∃ j : Nat, j ≤ 4 ∧ t = .int .i64 j ∧ y = .int .u64 (nm x / 2 ^ (8 * j)) ∧ MRel p r f v (outs v f (4 * i + j)) w wr) (fun _ t _ => 4 - (intOf t).toNat)
                  case atStart => exact ⟨0, by omega, rfl, by simp, hR'⟩
                  case round =>
                    clear hR'
                    obtain ⟨j, hj, rfl, rfl, hR⟩ := hrel
                    by_cases hlt2 : j < 4
                    · have hlt2' : (j : Int) < 4 := by omega
                      have cj := (hR.2.2.2.1.cell (4 * i + j)).trans (cells8_get _ (4 * i + j) (by rw [outs_len]; omega))
                      have fj := hR.2.2.2.1.frozen (4 * i + j)
                      have hby := byteOf_eq' x j
                      have hnx : nm x / 2 ^ (8 * j) / 256 = nm x / 2 ^ (8 * (j + 1)) := by
                        rw [Int.ediv_ediv_of_nonneg (Int.pow_nonneg (by decide)), show (2 : Int) ^ (8 * (j + 1)) = 2 ^ (8 * j) * 256 from by rw [Nat.mul_add, Int.pow_add]; rfl]
                      have hy0 : 0 ≤ nm x / 2 ^ (8 * j) := Int.ediv_nonneg hx0 (Int.pow_nonneg (by decide))
                      have hy1 : nm x / 2 ^ (8 * j) < 4294967296 := Int.lt_of_le_of_lt (Int.ediv_le_self _ hx0) hx1
                      have HBY := Lib.hid hby
                      have HNX := Lib.hid hnx
                      clear hby hnx
                      have hbb := (byteOf x j).toNat_lt
                      generalize nm x / 2 ^ (8 * j) = Y at *
                      go_wp2
                      go_roundw
                      case rel =>
                        refine ⟨j + 1, by omega, by go_num, by rw [← HNX.out], ?_⟩
                        rw [HBY.out, HX.out]
                        have h1 : (4 * i + j) / 4 = i := by omega
                        have h2 : (4 * i + j) % 4 = j := by omega
                        have h := hR.put (by omega) (by omega) (4 * i + j) (byteOf (gt v i + gt f i) j)
                        have e : outs v f (4 * i + (j + 1)) = (outs v f (4 * i + j)).set (4 * i + j) (byteOf (gt v i + gt f i) j) := by
                          show (outs v f (4 * i + j)).set (4 * i + j) (byteOf (gt v ((4 * i + j) / 4) + gt f ((4 * i + j) / 4)) ((4 * i + j) % 4)) = _
                          rw [h1, h2]
                        rw [e]; exact h
                      case measure => simp [intOf]; omega
                    · obtain rfl : j = 4 := by omega
                      go_wp2
                      go_roundw
                      case rel => exact ⟨i + 1, by omega, by go_num, hR⟩
                      case measure => simp [intOf]; omega
                · as_aux_lemma =>
                  obtain rfl : i = 16 := by omega
                  obtain ⟨⟨zs, hz1, hz2⟩, h2, h3, hB, hbel⟩ := hR
                  have hs : (cells8 (outs v f 64)).size = 64 := by rw [cells8_size, outs_len]
                  have HS := Lib.hid hs
                  clear hs
                  go_wp2_with (first | (refine wpList_loadB rfl 63 (.tmp 14) rfl r rfl hB Tryd.underlying63 rfl size64r HS.out ?_) | (refine wpList_storeB rfl 63 (.tmp 6) (.tmp 109) rfl (w.heap.size + 1 + 1) _ rfl rfl hz1 size64r HS.out hz2 (cells8_one _) ?_))
                  rw [HF.out]
                  refine bodyPost_ret (results_B rfl _ (g := w.heap.size + 1 + 1) rfl (hz1.row _) Tryd.underlying63 rfl size64r HS.out) rfl ⟨rfl, below_row hbel (by omega) _⟩
end Go.Proofs.YtilbebjjmnncdaaDoor
