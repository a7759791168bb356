/- Laws and walks that many claims share: Xor, RefXor. -/
import Derived.Test.YtconhhhggckcbaaDoorBlockB
import Derived.Test.YtconhhhggckcbaaDoorBaseB
import Derived.Test.YtconhhhggckcbaaDoorRblockB
import Derived.Lib.BufferRead
/- The walk of cipher.Xor: it returns the bytes of 'xorS' (up to a length of 2^31). -/
namespace Go.Proofs.YtconhhhggckcbaaDoor
open Go.RowKit

/-- 'b[l:h]' of a slice. -/
theorem run_sliceSl {P : Program} {t e : TypeId} (hu : P.underlying t = some (.slice e)) (hs : ∀ w, (sizeOf e).run P w = .ok 1 w) (g len cap : Nat) (l h : Int) (h0 : 0 ≤ l) (h1 : l ≤ h) (h2 : h ≤ cap) (h3 : l < cap) (W : World) :
    (Instr.slice t (.slice (some ⟨g, 0, none⟩) len cap) (some (.int .i64 l)) (some (.int .i64 h)) none).run P W = .ok (.slice (some ⟨g, l.toNat, none⟩) (h.toNat - l.toNat) (cap - l.toNat)) W := by
  have he : P.elem t = e := by simp [Program.elem, hu]
  have ht : P.underlying t = some (.slice (P.elem t)) := by rw [he]; exact hu
  rw [run_slice_lh W t (some ⟨g, 0, none⟩) len cap ht .i64 .i64 l h h0 h1 h2, he, hs W]
  simp only [Result.andThen, sliced]
  rw [if_neg (by omega), Nat.mul_one, Option.map_some, addr_add, Nat.zero_add]

/-- the world at a round's head. -/
def XRel (k nonce : List UInt8) (g : Nat) (o : List UInt8) (w wr : World) : Prop :=
  Blk wr w.heap.size 23 (cells8 k) ∧ Blk wr (w.heap.size + 1) 104 (cells8 nonce) ∧ Buf wr g o ∧ Below w.heap.size w wr

set_option maxRecDepth 100000 in
set_option maxHeartbeats 1000000 in
theorem xor_any (k nonce : List UInt8) (n : Wd) (data : List UInt8) (w : World) (hk : k.length = 32) (hn : nonce.length = 12) (hd : data.length < 140737488355328) :
    Calls Tryd.prog 75 #[.agg (cells8 k), .agg (cells8 nonce), .int .u32 (nm n), .string ⟨data.toArray⟩] w fun e w' =>
      e = .returned (.string ⟨(xorS k nonce n data).toArray⟩) ∧ Below w.heap.size w w' := by
  have HK := Lib.hid hk
  have HN := Lib.hid hn
  have HK8 : Hid ((cells8 k).size = 32) := Lib.hid (by rw [cells8_size]; exact hk)
  have HN8 : Hid ((cells8 nonce).size = 12) := Lib.hid (by rw [cells8_size]; exact hn)
  clear hk hn
  have hcv := fun (W : World) => run_bytes_of_string (P := Tryd.prog) W 9 52 5 ⟨data.toArray⟩ Tryd.underlying9 Tryd.underlying52 Tryd.underlying5
  go_enter Tryd.func75, Tryd.ntmps75
  go_wp2
  have hC := grownCap_ge ((w.alloc (.cells (cells8 k) 23)).alloc (.cells (cells8 nonce) 104)) data.length 0 5
  generalize grownCap ((w.alloc (.cells (cells8 k) 23)).alloc (.cells (cells8 nonce) 104)) data.length 0 5 = C at *
  have hR0 : XRel k nonce (w.heap.size + 1 + 1) (xorTo k nonce n data 0) w (((w.alloc (.cells (cells8 k) 23)).alloc (.cells (cells8 nonce) 104)).alloc
      (.cells (bytesRow ⟨data.toArray⟩ C) 5 ((bytesRow ⟨data.toArray⟩ C).size, (bytesRow ⟨data.toArray⟩ C).size + 1))).drew :=
    ⟨(((Blk.new w _ _).alloc _).alloc _).drew, ((Blk.newAt _ _ _ (by simp)).alloc _).drew, (Buf.ofBytes _ _ _ _ _ (by simp)).drew,
     ((((Below.refl _ _).alloc (Nat.le_refl _) _).alloc (by simp) _).alloc (by simp; omega) _).drew⟩
  generalize (((w.alloc (.cells (cells8 k) 23)).alloc (.cells (cells8 nonce) 104)).alloc
      (.cells (bytesRow ⟨data.toArray⟩ C) 5 ((bytesRow ⟨data.toArray⟩ C).size, (bytesRow ⟨data.toArray⟩ C).size + 1))).drew = wa at *
  clear hcv
  go_loopw [2, 10] (fun y i wr => ∃ j : Nat, 64 * j < data.length + 64 ∧ i = .int .i64 (64 * (j : Int)) ∧ y = .int .u32 (nm (n + BitVec.ofNat 32 j)) ∧ XRel k nonce (w.heap.size + 1 + 1) (xorTo k nonce n data (min (64 * j) data.length)) w wr)
    (fun _ i _ => data.length + 64 - (intOf i).toNat)
  case atStart => exact ⟨0, by omega, rfl, by simp, by simpa using hR0⟩
  case round =>
    clear hR0
    obtain ⟨j, hj, rfl, rfl, hR⟩ := hrel
    have hns := nm_succ n j
    have hfin : xorS k nonce n data = xorTo k nonce n data data.length := rfl
    have HNS := Lib.hid hns
    have HFI := Lib.hid hfin
    clear hns hfin
    by_cases hlt : 64 * j < data.length
    · have hlt' : 64 * (j : Int) < (data.length : Int) := by omega
      obtain ⟨h1, h2, h3, h4⟩ := hR
      have HC : Hid ((cells8 (chacha k nonce (n + BitVec.ofNat 32 j))).size = 64) := Lib.hid (by rw [cells8_size, chacha_len])
      go_wp2_with (first | (refine wpList_loadB rfl 23 (.tmp 4) rfl w.heap.size rfl h1 Tryd.underlying23 rfl size32k HK8.out ?_) | (refine wpList_loadB rfl 104 (.tmp 5) rfl (w.heap.size + 1) rfl h2 Tryd.underlying104 rfl size12b HN8.out ?_))
      refine (block_any k nonce (n + BitVec.ofNat 32 j) _ HK.out HN.out).mono ?_
      rintro e w1 ⟨rfl, hb⟩
      have hst : ∀ i, i < 64 → bt (chacha k nonce (n + BitVec.ofNat 32 j)) i = sx k nonce n (64 * j + i) := by
        intro i hi
        unfold sx
        rw [show (64 * j + i) / 64 = j by omega, show (64 * j + i) % 64 = i by omega]
      have HST := Lib.hid hst
      have HLS : Hid ((chacha k nonce (n + BitVec.ofNat 32 j)).length = 64) := Lib.hid (chacha_len _ _ _)
      clear hst
      generalize chacha k nonce (n + BitVec.ofNat 32 j) = st at *
      have hm0 : min (64 * j) data.length = 64 * j := by omega
      rw [hm0] at h3
      have hlen1 := hb.size
      have hlen2 := h3.lt
      have h1' := h1.below hb h1.lt
      have h2' := h2.below hb h2.lt
      have h3' := h3.below hb h3.lt
      have h4' : Below w.heap.size w w1 := h4.trans (hb.mono h4.size)
      clear h1 h2 h3 h4 hb hm0
      obtain ⟨m, hmm, hm1, hm2, hm3, hm4⟩ : ∃ m : Nat, (if (data.length : Int) < 64 * (j : Int) + 64 then (data.length : Int) else 64 * (j : Int) + 64) = (m : Int) ∧ 64 * j < m ∧ m ≤ data.length ∧ m ≤ 64 * j + 64 ∧ m = min (64 * (j + 1)) data.length := by
        by_cases hm : data.length < 64 * j + 64
        · exact ⟨data.length, by rw [if_pos (by omega)], by omega, by omega, by omega, by omega⟩
        · exact ⟨64 * j + 64, by rw [if_neg (by omega)]; omega, by omega, by omega, by omega, by omega⟩
      have HM4 := Lib.hid hm4
      clear hm4
      have hsl := run_sliceSl Tryd.underlying52 size8 (w.heap.size + 1 + 1) data.length C (64 * (j : Int)) (m : Int) (by omega) (by omega) (by omega) (by omega)
      rw [show (64 * (j : Int)).toNat = 64 * j by omega, show ((m : Int)).toNat = m by omega] at hsl
      go_wp2_with (refine wpList_storeNew rfl 46 (.tmp 11) (.tmp 25) rfl w1 w1.heap.size rfl rfl _ rfl rfl size64b HC.out rfl (cells8_one _) ?_)
      have hR0 : XRel k nonce (w.heap.size + 1 + 1) (xorTo k nonce n data (64 * j)) w (w1.alloc (.cells (cells8 st) 46)) := ⟨h1'.alloc _, h2'.alloc _, h3'.alloc _, h4'.alloc (by omega) _⟩
      have hQ0 : Blk (w1.alloc (.cells (cells8 st) 46)) w1.heap.size 46 (cells8 st) := Blk.new _ _ _
      have hq : w.heap.size + 1 + 1 < w1.heap.size := by omega
      clear h1' h2' h3' h4' hlen1 hlen2 hsl hmm
      generalize w1.alloc (.cells (cells8 st) 46) = wb at *
      generalize w1.heap.size = q at *
      obtain ⟨L, hL⟩ : ∃ L, L = m - 64 * j := ⟨_, rfl⟩
      rw [← hL, HNS.out]
      have hL1 : L ≤ 64 := by omega
      have HLM : Hid (64 * j + L = m) := Lib.hid (by omega)
      have hL2 : 64 * j + L ≤ data.length := by omega
      clear hL
      go_loopw [38] (fun t wr => ∃ i : Nat, i ≤ L ∧ t = .int .i64 i ∧ XRel k nonce (w.heap.size + 1 + 1) (xorTo k nonce n data (64 * j + i)) w wr ∧ Blk wr q 46 (cells8 st)) (fun t _ => L - (intOf t).toNat)
      case atStart => exact ⟨0, by omega, rfl, hR0, hQ0⟩
      case round =>
        clear hR0 hQ0
        obtain ⟨i, hi, rfl, hR, hQ⟩ := hrel
        by_cases hlt2 : i < L
        · have hlt2' : (i : Int) < (L : Int) := by omega
          have hlt3 : (i : Int) < 64 := by omega
          have ca := hR.2.2.1.cell (64 * j + i) (by rw [xorTo_len]; omega)
          have fa := hR.2.2.1.frozen (64 * j + i) (by rw [xorTo_len]; omega)
          have cq := (hQ.cell i).trans (cells8_get st i (by have := HLS.out; omega))
          rw [xorTo_at _ _ _ _ _ (by omega), if_neg (by omega)] at ca
          rw [HST.out i (by omega)] at cq
          have hx8 := xor8 (bt data (64 * j + i)) (sx k nonce n (64 * j + i))
          have hnx : xorTo k nonce n data (64 * j + (i + 1)) = (xorTo k nonce n data (64 * j + i)).set (64 * j + i) (bt data (64 * j + i) ^^^ sx k nonce n (64 * j + i)) := rfl
          have HX8 := Lib.hid hx8
          have HNX := Lib.hid hnx
          clear hx8 hnx
          generalize sx k nonce n (64 * j + i) = sb at *
          generalize bt data (64 * j + i) = db at *
          go_wp2
          refine wp_region_still_tail 8 (by kernel_rfl) (by kernel_rfl) ?_
          simp only [List.take_succ_cons, List.take_zero, List.drop_succ_cons, List.drop_zero]
          change wpStill _ _ wr.drew _ _ _
          repeat still_step
          refine wpStill_nil ?_
          change wpList _ _ _ _ _ wr.drew
          rw [HX8.out]
          go_wp2
          go_roundw
          case rel =>
            refine ⟨i + 1, by omega, by go_num, ?_, ?_⟩
            · obtain ⟨h1, h2, h3, h4⟩ := hR
              rw [HNX.out, ← UInt8.toNat_xor]
              exact ⟨(h1.far (by dsimp only; omega) _).drew, (h2.far (by dsimp only; omega) _).drew, (h3.set_ _ _ (by rw [xorTo_len]; omega)).drew, (h4.setCell (by dsimp only; omega) _).drew⟩
            · exact (hQ.far (by dsimp only; omega) _).drew
          case measure => simp [intOf]; omega
        · obtain rfl : i = L := by omega
          have hR' := hR
          rw [HLM.out, HM4.out] at hR'
          go_wp2
          go_roundw
          case rel => exact ⟨j + 1, by omega, by go_num, rfl, hR'⟩
          case measure => simp [intOf]; omega
    · have hm0 : min (64 * j) data.length = data.length := by omega
      rw [hm0, ← HFI.out] at hR
      have hge' : (data.length : Int) ≤ 64 * (j : Int) := by omega
      have hcv := run_strOf (w := wr) (g := w.heap.size + 1 + 1) (off := 0) (cap := C) (n := data.length) (l := xorS k nonce n data) (xorS_len _ _ _ _) (fun i hi => by rw [Nat.zero_add]; exact hR.2.2.1.cell i hi)
      clear hm0
      go_wp2
      go_ret
      exact ⟨rfl, hR.2.2.2⟩
end Go.Proofs.YtconhhhggckcbaaDoor
/- The walk of the reference's Xor: it returns the bytes of 'xorS' (up to a length of 2^31). Printed by gen_rxor.py. -/
namespace Go.Proofs.YtconhhhggckcbaaDoor
open Go.RowKit

theorem u64_b (b : UInt8) : IntKind.u64.wrap (b.toNat : Int) = (b.toNat : Int) := by rw [wrap_u64]; have := b.toNat_lt; omega
attribute [local go_sem] str_at u64_b
/-- the world at a round's head. -/
def ZRel (k nonce : List UInt8) (n : Wd) (data : List UInt8) (j : Nat) (v : Value) (w wr : World) : Prop :=
  Blk wr w.heap.size 23 (cells8 k) ∧ Blk wr (w.heap.size + 1) 104 (cells8 nonce) ∧
  (∃ B, Blk wr (w.heap.size + 1 + 1 + 1) 46 (cells8 B) ∧ B.length = 64 ∧ (j % 64 ≠ 0 → B = chacha k nonce (n + BitVec.ofNat 32 (j / 64)))) ∧
  wr.ownsRow (w.heap.size + 1 + 1) 5 1 v j (((xorS k nonce n data).take j).map cb) ∧ Below w.heap.size w wr

end Go.Proofs.YtconhhhggckcbaaDoor
