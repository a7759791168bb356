/- Laws and walks that many claims share: SealRnonce, Ref04. -/
import Derived.Test.YtioioibcldgknaaDoorSealB
import Derived.Test.YtioioibcldgknaaDoorBaseB
import Derived.Test.YtioioibcldgknaaDoorRef01
import Derived.Test.YtioioibcldgknaaDoorRsumB
import Derived.Test.YtioioibcldgknaaDoorXorB
/- The walk of the reference's Nonce. -/
namespace Go.Proofs.YtioioibcldgknaaDoor
open Go.RowKit

def nTo (s : List UInt8) (i : Nat) : List UInt8 := s.take i ++ List.replicate (12 - i) 0
theorem nTo_len (s : List UInt8) (i : Nat) (h : i ≤ 12) (hs : i ≤ s.length) : (nTo s i).length = 12 := by
  unfold nTo; rw [List.length_append, List.length_take, List.length_replicate]; omega
theorem nTo_set (s : List UInt8) (i : Nat) (h : i < 12) (hs : i < s.length) : (nTo s i).set i (bt s i) = nTo s (i + 1) := by
  unfold nTo
  rw [List.set_append_right _ _ (by rw [List.length_take]; omega), List.length_take, show i - min i s.length = 0 by omega, show 12 - i = (12 - (i + 1)) + 1 by omega, List.replicate_succ, List.set_cons_zero]
  have h2 : s.take (i + 1) = s.take i ++ [bt s i] := by rw [List.take_succ_eq_append_getElem hs]; simp [bt, hs]
  rw [h2, List.append_assoc]
  rfl
theorem nTo_end (s : List UInt8) (i : Nat) (h : i ≤ 12) (hs : i ≤ s.length) (he : i = 12 ∨ i = s.length) : nTo s i = nonceS s := by
  unfold nTo nonceS
  rcases he with rfl | rfl
  · rw [show 12 - 12 = 0 by rfl, show 12 - s.length = 0 by omega]
  · rw [List.take_of_length_le (Nat.le_refl _), List.take_of_length_le h]
attribute [local go_sem] str_byte
set_option maxRecDepth 100000 in
set_option maxHeartbeats 1000000 in
theorem rnonce_any (s : List UInt8) (w : World) (hs : s.length ≤ maxLen) :
    Calls Tryd.prog 64 #[.string ⟨s.toArray⟩] w fun e w' => e = .returned (.agg (cells8 (nonceS s))) ∧ Below w.heap.size w w' := by
  unfold maxLen at hs
  go_enter Tryd.func64, Tryd.ntmps64
  have HZ : Hid ((cells8 (List.replicate 12 0)).size = 12) := Lib.hid (by rw [cells8_size, List.length_replicate])
  go_upto_region 2 with (refine wpList_storeNew (c := cells8 (List.replicate 12 0)) rfl 56 (.tmp 3) (.tmp 5) rfl (w.alloc (.cells (cells8 (List.replicate 12 0)) 56)) (w.heap.size + 1) (by simp) rfl (cells8 (List.replicate 12 0)) rfl rfl sz12q HZ.out HZ.out (cells8_one _) ?_)
  change Code.wp _ _ _ _ ((w.alloc (.cells (cells8 (List.replicate 12 0)) 56)).alloc (.cells (cells8 (List.replicate 12 0)) 56))
  have hA : Blk ((w.alloc (.cells (cells8 (List.replicate 12 0)) 56)).alloc (.cells (cells8 (List.replicate 12 0)) 56)) w.heap.size 56 (cells8 (List.replicate 12 0)) := (Blk.new _ _ _).alloc _
  have hB : Blk ((w.alloc (.cells (cells8 (List.replicate 12 0)) 56)).alloc (.cells (cells8 (List.replicate 12 0)) 56)) (w.heap.size + 1) 56 (cells8 (nTo s 0)) := Blk.newAt _ _ _ (by simp)
  have hb : Below w.heap.size w ((w.alloc (.cells (cells8 (List.replicate 12 0)) 56)).alloc (.cells (cells8 (List.replicate 12 0)) 56)) := ((Below.refl _ _).alloc (Nat.le_refl _) _).alloc (by simp) _
  generalize (w.alloc (.cells (cells8 (List.replicate 12 0)) 56)).alloc (.cells (cells8 (List.replicate 12 0)) 56) = w1 at *
  have HA := Lib.hid hA
  have HB := Lib.hid hB
  have HBW := Lib.hid hb
  clear hA hB hb
  simp only [Act.put]
  go_wp2_with fail
  go_loopw [4] (fun v wr => ∃ i : Nat, i ≤ 12 ∧ i ≤ s.length ∧ v = .int .i64 i ∧ Blk wr (w.heap.size + 1) 56 (cells8 (nTo s i)) ∧ Blk wr w.heap.size 56 (cells8 (List.replicate 12 0)) ∧ Below w.heap.size w wr) (fun v _ => 12 - (intOf v).toNat)
  case atStart => exact ⟨0, by omega, by omega, rfl, HB.out, HA.out, HBW.out⟩
  case round =>
    clear HA HB HBW
    obtain ⟨i, hi, his, rfl, hB, hA, hb⟩ := hrel
    have HA := Lib.hid hA
    have HB := Lib.hid hB
    have HBW := Lib.hid hb
    clear hA hb
    by_cases hlt : i < 12 ∧ i < s.length
    · obtain ⟨h1, h2⟩ := hlt
      have h1' : (i : Int) < 12 := by omega
      have h2' : (i : Int) < s.length := by omega
      have HST := Lib.hid (nTo_set s i h1 h2)
      have hc := (hB.cell i).trans (cells8_get _ i (by rw [nTo_len s i hi his]; exact h1))
      have hf := hB.frozen i
      generalize bt (nTo s i) i = y at *
      clear hB
      go_wp2_with fail
      have hB2 := HB.out.set_ i (.int .u8 ((bt s i).toNat : Int))
      rw [cells8_set, HST.out] at hB2
      have HB2 := Lib.hid hB2
      have HA2 := Lib.hid (HA.out.far (p := ⟨w.heap.size + 1, i, none⟩) (by dsimp only; omega) (.int .u8 ((bt s i).toNat : Int)))
      have HBW2 := Lib.hid (HBW.out.setCell (p := ⟨w.heap.size + 1, i, none⟩) (by dsimp only; omega) (.int .u8 ((bt s i).toNat : Int)))
      clear hB2
      go_roundw
      case rel => exact ⟨i + 1, by omega, by omega, by go_num, HB2.out, HA2.out, HBW2.out⟩
      case measure => simp [intOf]; omega
    · have he : i = 12 ∨ i = s.length := by omega
      rw [nTo_end s i hi his he] at HB
      clear hB
      have HS : Hid ((cells8 (nonceS s)).size = 12) := Lib.hid (by rw [cells8_size, nonceS_len])
      obtain ⟨D, hD⟩ : ∃ D, nonceS s = D := ⟨_, rfl⟩
      rw [hD] at HB HS
      have HD := Lib.hid hD
      clear hD
      have hcase : (i : Int) < 12 ∧ ¬ (i : Int) < s.length ∨ ¬ (i : Int) < 12 := by omega
      rcases hcase with ⟨h1, h2⟩ | h1
      all_goals go_wp2_with (first | refine wpList_loadB (cs := cells8 D) rfl 56 (.tmp 3) rfl (w.heap.size + 1) rfl HB.out Tryd.underlying56 rfl sz12q HS.out ?_ | refine wpList_storeB rfl 56 (.tmp 2) (.tmp 21) rfl w.heap.size (cells8 D) rfl rfl HA.out sz12q HS.out HZ.out (cells8_one _) ?_)
      all_goals refine bodyPost_ret (results_B rfl _ (g := w.heap.size) rfl (HA.out.row _) Tryd.underlying56 rfl sz12q HS.out) rfl ⟨by rw [HD.out], below_row HBW.out (Nat.le_refl _) _⟩
end Go.Proofs.YtioioibcldgknaaDoor
/- The walks of the reference's boxes: of, tag, Seal, Open. Printed by gen_ref04.py. -/
namespace Go.Proofs.YtioioibcldgknaaDoor
open Go.RowKit

attribute [local simp] xorS_len tagS_len keyedS_len nonceS_len
theorem rkeyed1 (k x : List UInt8) (v : Value) (w : World) (hk : k.length = 32) (hs : Strs w v [x]) (hx : x.length < 2 ^ 45) :
    Calls Tryd.prog 38 #[.agg (cells8 k), v] w fun e w' => e = .returned (.agg (cells8 (keyedS k x))) ∧ Below w.heap.size w w' := by
  have h := rkeyed_any k [x] v w hk hs (by simpa using hx) (by simp)
  rwa [show [x].flatten = x by simp] at h
theorem rxor1_any (k nonce data : List UInt8) (w : World) (hk : k.length = 32) (hn : nonce.length = 12) (hd : data.length < 2147483648) :
    Calls Tryd.prog 62 #[.agg (cells8 k), .agg (cells8 nonce), .int .u32 1, .string ⟨data.toArray⟩] w fun e w' => e = .returned (.string ⟨(xorS k nonce 1 data).toArray⟩) ∧ Below w.heap.size w w' := rxors_any k nonce 1 data w hk hn hd
set_option maxRecDepth 100000 in
set_option maxHeartbeats 1000000 in
theorem rof_any (k x : List UInt8) (w : World) (hLk : k.length = 32) (hx : x.length < 2 ^ 45) :
    Calls Tryd.prog 63 #[.agg (cells8 k), .string ⟨x.toArray⟩] w fun e w' => e = .returned (.agg (cells8 (keyedS k x))) ∧ Below w.heap.size w w' := by
  refine walk_enter Tryd.func63 rfl rfl rfl fun a0 hF0 => ?_
  have hM0 := Mem.new w
  refine wp_seq ?_
  refine wp_region_lit ?_
  refine sqNew (cs := (cells8 k)) (t := 24) hF0 hM0 (wantedS rfl) (run_box rfl (hF0.ev 0 rfl)) rfl (by decide) fun g0 a1 w1 hgg0 hb1 hF1 hM1 => ?_
  refine sqNew (cs := (cells8 (List.replicate 32 0))) (t := 24) hF1 hM1 (wantedS rfl) (run_alloc rfl (by kernel_rfl)) rfl (by decide) fun g1 a2 w2 hgg1 hb2 hF2 hM2 => ?_
  refine sqEnd ?_
  clear hF0 hF1 hM0 hM1
  refine nx ?_
  refine wp_seq ?_
  refine wp_region_lit ?_
  refine sq (v := (.agg (cells8 k))) hF2 (wantedS rfl) (run_ldB rfl (hF2.ev 2 rfl) (hM2.at 1 rfl) Tryd.underlying24 rfl sz32k (szOf hLk)) rfl (by decide) fun a3 hF3 => ?_
  refine sq (v := (.string ⟨x.toArray⟩)) hF3 (wantedS rfl) (run_mv rfl (hF3.ev 1 rfl)) rfl (by decide) fun a4 hF4 => ?_
  refine sqStrs [x] hF4 hM2 (wantedS rfl) (run_strs1 rfl (hF4.ev 6 rfl)) rfl (by decide) fun v2 a5 w3 hsv2 hb3 hF5 hM3 => ?_
  refine sqC (v := (.agg (cells8 (keyedS k x)))) hF5 hM3 (wantedS rfl) (run_call rfl Tryd.func38 (by kernel_rfl) rfl (mapE2 (hF5.ev 5 rfl) (hF5.ev 7 rfl))) rfl (by decide) (rkeyed1 k x _ w3 hLk hsv2 (by first | omega | decide | (simp; omega))) fun a6 w4 hb4 hF6 hM4 => ?_
  refine sqStore (i := 0) hF6 hM4 rfl rfl rfl (hF6.ev 4 rfl) (hF6.ev 8 rfl) rfl sz32k (szOf (keyedS_len _ _)) (szOf List.length_replicate) (cells8_one _) fun a7 w5 hF7 hM5 => ?_
  refine sqEnd ?_
  clear hF2 hF3 hF4 hF5 hF6 hM2 hM3 hM4
  refine nx ?_
  refine wp_ret ?_
  exact retB hF7 rfl rfl (hM5.at 0 rfl) Tryd.underlying24 rfl sz32k (szOf (keyedS_len _ _)) ⟨rfl, hM5.below⟩
set_option maxRecDepth 100000 in
set_option maxHeartbeats 1000000 in
theorem rtag_any (k h x : List UInt8) (w : World) (hLk : k.length = 32) (hl : h.length + x.length < 2 ^ 42) :
    Calls Tryd.prog 61 #[.agg (cells8 k), .string ⟨h.toArray⟩, .string ⟨x.toArray⟩] w fun e w' => e = .returned (.string ⟨(tagS k h x).toArray⟩) ∧ Below w.heap.size w w' := by
  have hrl := rowS_len [h, x]
  simp only [List.flatten_cons, List.flatten_nil, List.length_append, List.length_cons, List.length_nil] at hrl
  refine walk_enter Tryd.func61 rfl rfl rfl fun a0 hF0 => ?_
  have hM0 := Mem.new w
  refine wp_seq ?_
  refine wp_region_lit ?_
  refine sqNew (cs := (cells8 k)) (t := 24) hF0 hM0 (wantedS rfl) (run_box rfl (hF0.ev 0 rfl)) rfl (by decide) fun g0 a1 w1 hgg0 hb1 hF1 hM1 => ?_
  refine sq (v := (.string ⟨List.toArray []⟩)) hF1 (wantedS rfl) (run_as rfl rfl) rfl (by decide) fun a2 hF2 => ?_
  refine sqEnd ?_
  clear hF0 hF1 hM0
  refine nx ?_
  refine wp_seq ?_
  refine wp_region_lit ?_
  refine sq (v := (.agg (cells8 k))) hF2 (wantedS rfl) (run_ldB rfl (hF2.ev 3 rfl) (hM1.at 0 rfl) Tryd.underlying24 rfl sz32k (szOf hLk)) rfl (by decide) fun a3 hF3 => ?_
  refine sqC (v := (.agg (cells8 (keyedS k [116, 97, 103])))) hF3 hM1 (wantedS rfl) (run_call rfl Tryd.func63 (by kernel_rfl) rfl (mapE2 (hF3.ev 8 rfl) rfl)) rfl (by decide) (rof_any k [116, 97, 103] w1 hLk (by first | omega | decide | (simp; omega))) fun a4 w2 hb2 hF4 hM2 => ?_
  refine sq (v := (.string ⟨h.toArray⟩)) hF4 (wantedS rfl) (run_mv rfl (hF4.ev 1 rfl)) rfl (by decide) fun a5 hF5 => ?_
  refine sq (v := (.string ⟨x.toArray⟩)) hF5 (wantedS rfl) (run_mv rfl (hF5.ev 2 rfl)) rfl (by decide) fun a6 hF6 => ?_
  refine sqStrs [h, x] hF6 hM2 (wantedS rfl) (run_strs2 rfl (hF6.ev 10 rfl) (hF6.ev 11 rfl)) rfl (by decide) fun v1 a7 w3 hsv1 hb3 hF7 hM3 => ?_
  refine sqC (v := (.string ⟨(rowS [h, x]).toArray⟩)) hF7 hM3 (wantedS rfl) (run_call rfl Tryd.func17 (by kernel_rfl) rfl (mapE1 (hF7.ev 12 rfl))) rfl (by decide) (rrow_any [h, x] _ w3 hsv1 (by simp; omega) (by simp)) fun a8 w4 hb4 hF8 hM4 => ?_
  refine sqStrs [rowS [h, x]] hF8 hM4 (wantedS rfl) (run_strs1 rfl (hF8.ev 13 rfl)) rfl (by decide) fun v2 a9 w5 hsv2 hb5 hF9 hM5 => ?_
  refine sqC (v := (.agg (cells8 (keyedS (keyedS k [116, 97, 103]) (rowS [h, x]))))) hF9 hM5 (wantedS rfl) (run_call rfl Tryd.func38 (by kernel_rfl) rfl (mapE2 (hF9.ev 9 rfl) (hF9.ev 14 rfl))) rfl (by decide) (rkeyed1 (keyedS k [116, 97, 103]) (rowS [h, x]) _ w5 (keyedS_len _ _) hsv2 (by first | omega | decide | (simp; omega))) fun a10 w6 hb6 hF10 hM6 => ?_
  refine sqNew (cs := (cells8 (List.replicate 32 0))) (t := 54) hF10 hM6 (wantedS rfl) (run_alloc rfl (by kernel_rfl)) rfl (by decide) fun g3 a11 w7 hgg3 hb7 hF11 hM7 => ?_
  refine sqStore (i := 0) hF11 hM7 rfl rfl rfl (hF11.ev 7 rfl) (hF11.ev 15 rfl) rfl sz32d (szOf (keyedS_len _ _)) (szOf List.length_replicate) (cells8_one _) fun a12 w8 hF12 hM8 => ?_
  refine sqEnd ?_
  clear hF2 hF3 hF4 hF5 hF6 hF7 hF8 hF9 hF10 hF11 hM1 hM2 hM3 hM4 hM5 hM6 hM7
  refine nx ?_
  refine wp_seq ?_
  refine wp_region_lit ?_
  refine sq (v := (.slice (some ⟨g3, 0, none⟩) 32 32)) hF12 (wantedS rfl) (run_slA rfl (hF12.ev 7 rfl) (run_sliceArr_all (P := Tryd.prog) Tryd.underlying54 so8 g3 0 (by decide) _)) rfl (by decide) fun a13 hF13 => ?_
  refine sq (v := (.string ⟨(keyedS (keyedS k [116, 97, 103]) (rowS [h, x])).toArray⟩)) hF13 (wantedS rfl) (run_cv rfl (hF13.ev 16 rfl) (run_strBlk (l := (keyedS (keyedS k [116, 97, 103]) (rowS [h, x]))) (keyedS_len _ _) (hM8.at 0 rfl))) rfl (by decide) fun a14 hF14 => ?_
  refine sq (v := (.string ⟨(keyedS (keyedS k [116, 97, 103]) (rowS [h, x])).toArray⟩)) hF14 (wantedS rfl) (run_as rfl (hF14.ev 17 rfl)) rfl (by decide) fun a15 hF15 => ?_
  refine sqEnd ?_
  clear hF12 hF13 hF14
  refine nx ?_
  refine wp_ret ?_
  exact ret1 hF15 rfl rfl ⟨rfl, hM8.below⟩
set_option maxRecDepth 100000 in
set_option maxHeartbeats 1000000 in
theorem rseal_any (k nonce h d : List UInt8) (w : World) (hLk : k.length = 32) (hLnonce : nonce.length = 12) (hl : h.length + d.length < 2 ^ 30) :
    Calls Tryd.prog 43 #[.agg (cells8 k), .agg (cells8 nonce), .string ⟨h.toArray⟩, .string ⟨d.toArray⟩] w fun e w' => e = .returned (.string ⟨(sealS k nonce h d).toArray⟩) ∧ Below w.heap.size w w' := by
  have hxl := xorS_len (keyedS k [99, 105, 112, 104, 101, 114]) nonce 1 d
  have htl := tagS_len k h (nonce ++ xorS (keyedS k [99, 105, 112, 104, 101, 114]) nonce 1 d)
  refine walk_enter Tryd.func43 rfl rfl rfl fun a0 hF0 => ?_
  have hM0 := Mem.new w
  refine wp_seq ?_
  refine wp_region_lit ?_
  refine sqNew (cs := (cells8 k)) (t := 24) hF0 hM0 (wantedS rfl) (run_box rfl (hF0.ev 0 rfl)) rfl (by decide) fun g0 a1 w1 hgg0 hb1 hF1 hM1 => ?_
  refine sqNew (cs := (cells8 nonce)) (t := 56) hF1 hM1 (wantedS rfl) (run_box rfl (hF1.ev 1 rfl)) rfl (by decide) fun g1 a2 w2 hgg1 hb2 hF2 hM2 => ?_
  refine sq (v := (.string ⟨List.toArray []⟩)) hF2 (wantedS rfl) (run_as rfl rfl) rfl (by decide) fun a3 hF3 => ?_
  refine sqEnd ?_
  clear hF0 hF1 hF2 hM0 hM1
  refine nx ?_
  refine wp_seq ?_
  obtain ⟨KL, hKL⟩ : ∃ KL, KL = [kval (.slice (some ⟨g1, 0, none⟩) 12 12), kval (.string ⟨nonce.toArray⟩), kval (.agg (cells8 k)), kval (.agg (cells8 (keyedS k [99, 105, 112, 104, 101, 114]))), kval (.agg (cells8 nonce)), kval (.string ⟨d.toArray⟩), kval (.string ⟨(xorS (keyedS k [99, 105, 112, 104, 101, 114]) nonce 1 d).toArray⟩), kval (.string ⟨(nonce ++ (xorS (keyedS k [99, 105, 112, 104, 101, 114]) nonce 1 d)).toArray⟩), kval (.string ⟨(nonce ++ (xorS (keyedS k [99, 105, 112, 104, 101, 114]) nonce 1 d)).toArray⟩)] := ⟨_, rfl⟩
  have K0 : KL.getD 0 kany = kval (.slice (some ⟨g1, 0, none⟩) 12 12) := by rw [hKL]; rfl
  have K1 : KL.getD 1 kany = kval (.string ⟨nonce.toArray⟩) := by rw [hKL]; rfl
  have K2 : KL.getD 2 kany = kval (.agg (cells8 k)) := by rw [hKL]; rfl
  have K3 : KL.getD 3 kany = kval (.agg (cells8 (keyedS k [99, 105, 112, 104, 101, 114]))) := by rw [hKL]; rfl
  have K4 : KL.getD 4 kany = kval (.agg (cells8 nonce)) := by rw [hKL]; rfl
  have K5 : KL.getD 5 kany = kval (.string ⟨d.toArray⟩) := by rw [hKL]; rfl
  have K6 : KL.getD 6 kany = kval (.string ⟨(xorS (keyedS k [99, 105, 112, 104, 101, 114]) nonce 1 d).toArray⟩) := by rw [hKL]; rfl
  have K7 : KL.getD 7 kany = kval (.string ⟨(nonce ++ (xorS (keyedS k [99, 105, 112, 104, 101, 114]) nonce 1 d)).toArray⟩) := by rw [hKL]; rfl
  have K8 : KL.getD 8 kany = kval (.string ⟨(nonce ++ (xorS (keyedS k [99, 105, 112, 104, 101, 114]) nonce 1 d)).toArray⟩) := by rw [hKL]; rfl
  clear hKL
  refine wp_region_kd 24 (by kernel_rfl) (by kernel_rfl) (by kernel_rfl) hF3.size KL ?_ ?_
  · refine ⟨?_, ?_, ?_, ?_, ?_, ?_, ?_, ?_, ?_, trivial⟩
    · refine asks_mk fun a W hS hh hd => ⟨wanted_yes rfl, ?_⟩
      exact giv_run (run_slA rfl (eval_tmp (hh 5 _ rfl (hF3.at 5 rfl))) (run_sliceArr_all (P := Tryd.prog) Tryd.underlying56 so8 g1 0 (by decide) _)) K0
    · refine asks_mk fun a W hS hh hd => ⟨wanted_yes rfl, ?_⟩
      exact giv_run (run_cv rfl (eval_tmp (hd.val (j := 0) (s := 10) (by kernel_rfl) K0)) (run_strBlk (l := nonce) hLnonce ((hM2.grow hS).at 0 rfl))) K1
    · refine asks_mk fun a W hS hh hd => ⟨wanted_yes rfl, ?_⟩
      exact giv_run (run_ldB rfl (eval_tmp (hh 4 _ rfl (hF3.at 4 rfl))) ((hM2.grow hS).at 1 rfl) Tryd.underlying24 rfl sz32k (szOf hLk)) K2
    · refine asks_mk fun a W hS hh hd => ⟨wanted_yes rfl, ?_⟩
      exact giv_call (run_call rfl Tryd.func63 (by kernel_rfl) rfl (mapE2 (eval_tmp (hd.val (j := 2) (s := 12) (by kernel_rfl) K2)) rfl)) (rof_any k [99, 105, 112, 104, 101, 114] W hLk (by first | omega | decide | (simp; omega))) K3
    · refine asks_mk fun a W hS hh hd => ⟨wanted_yes rfl, ?_⟩
      exact giv_run (run_ldB rfl (eval_tmp (hh 5 _ rfl (hF3.at 5 rfl))) ((hM2.grow hS).at 0 rfl) Tryd.underlying56 rfl sz12q (szOf hLnonce)) K4
    · refine asks_mk fun a W hS hh hd => ⟨wanted_yes rfl, ?_⟩
      exact giv_run (run_mv rfl (eval_tmp (hh 3 _ rfl (hF3.at 3 rfl)))) K5
    · refine asks_mk fun a W hS hh hd => ⟨wanted_yes rfl, ?_⟩
      exact giv_call (run_call rfl Tryd.func62 (by kernel_rfl) rfl (mapE4 (eval_tmp (hd.val (j := 3) (s := 13) (by kernel_rfl) K3)) (eval_tmp (hd.val (j := 4) (s := 14) (by kernel_rfl) K4)) rfl (eval_tmp (hd.val (j := 5) (s := 15) (by kernel_rfl) K5)))) (rxor1_any (keyedS k [99, 105, 112, 104, 101, 114]) nonce d W (keyedS_len _ _) hLnonce (by first | omega | decide | (simp; omega))) K6
    · refine asks_mk fun a W hS hh hd => ⟨wanted_yes rfl, ?_⟩
      exact giv_run (run_cat rfl (eval_tmp (hd.val (j := 1) (s := 11) (by kernel_rfl) K1)) (eval_tmp (hd.val (j := 6) (s := 16) (by kernel_rfl) K6)) (by first | omega | decide | (simp; omega))) K7
    · refine asks_mk fun a W hS hh hd => ⟨wanted_yes rfl, ?_⟩
      exact giv_run (run_as rfl (eval_tmp (hd.val (j := 7) (s := 17) (by kernel_rfl) K7))) K8
  · intro a4 w3 hb3 hK
    have e0 := hK.val (i := 0) (s := 10) (by kernel_rfl) K0
    have e1 := hK.val (i := 1) (s := 11) (by kernel_rfl) K1
    have e2 := hK.val (i := 2) (s := 12) (by kernel_rfl) K2
    have e3 := hK.val (i := 3) (s := 13) (by kernel_rfl) K3
    have e4 := hK.val (i := 4) (s := 14) (by kernel_rfl) K4
    have e5 := hK.val (i := 5) (s := 15) (by kernel_rfl) K5
    have e6 := hK.val (i := 6) (s := 16) (by kernel_rfl) K6
    have e7 := hK.val (i := 7) (s := 17) (by kernel_rfl) K7
    have e8 := hK.val (i := 8) (s := 9) (by kernel_rfl) K8
    have hF4 : Fr a4 24 [(0, (.agg (cells8 k))), (1, (.agg (cells8 nonce))), (2, (.string ⟨h.toArray⟩)), (4, (.pointer (some ⟨g0, 0, none⟩))), (8, (.string ⟨List.toArray []⟩)), (9, (.string ⟨(nonce ++ (xorS (keyedS k [99, 105, 112, 104, 101, 114]) nonce 1 d)).toArray⟩))] := (hK.fr hF3 [(.slice (some ⟨g1, 0, none⟩) 12 12), (.string ⟨nonce.toArray⟩), (.agg (cells8 k)), (.agg (cells8 (keyedS k [99, 105, 112, 104, 101, 114]))), (.agg (cells8 nonce)), (.string ⟨d.toArray⟩), (.string ⟨(xorS (keyedS k [99, 105, 112, 104, 101, 114]) nonce 1 d).toArray⟩), (.string ⟨(nonce ++ (xorS (keyedS k [99, 105, 112, 104, 101, 114]) nonce 1 d)).toArray⟩), (.string ⟨(nonce ++ (xorS (keyedS k [99, 105, 112, 104, 101, 114]) nonce 1 d)).toArray⟩)] ⟨e0, e1, e2, e3, e4, e5, e6, e7, e8, trivial⟩).sub ⟨rfl, rfl, rfl, rfl, rfl, rfl, trivial⟩
    have hM3 := hM2.grow hb3
    clear hK K0 e0 K1 e1 K2 e2 K3 e3 K4 e4 K5 e5 K6 e6 K7 e7 K8 e8
    clear hF3 hM2
    refine nx ?_
    refine wp_seq ?_
    refine wp_region_lit ?_
    refine sq (v := (.string ⟨(nonce ++ (xorS (keyedS k [99, 105, 112, 104, 101, 114]) nonce 1 d)).toArray⟩)) hF4 (wantedS rfl) (run_mv rfl (hF4.ev 9 rfl)) rfl (by decide) fun a5 hF5 => ?_
    refine sq (v := (.agg (cells8 k))) hF5 (wantedS rfl) (run_ldB rfl (hF5.ev 4 rfl) (hM3.at 1 rfl) Tryd.underlying24 rfl sz32k (szOf hLk)) rfl (by decide) fun a6 hF6 => ?_
    refine sq (v := (.string ⟨h.toArray⟩)) hF6 (wantedS rfl) (run_mv rfl (hF6.ev 2 rfl)) rfl (by decide) fun a7 hF7 => ?_
    refine sq (v := (.string ⟨(nonce ++ (xorS (keyedS k [99, 105, 112, 104, 101, 114]) nonce 1 d)).toArray⟩)) hF7 (wantedS rfl) (run_mv rfl (hF7.ev 9 rfl)) rfl (by decide) fun a8 hF8 => ?_
    refine sqC (v := (.string ⟨(tagS k h (nonce ++ (xorS (keyedS k [99, 105, 112, 104, 101, 114]) nonce 1 d))).toArray⟩)) hF8 hM3 (wantedS rfl) (run_call rfl Tryd.func61 (by kernel_rfl) rfl (mapE3 (hF8.ev 19 rfl) (hF8.ev 20 rfl) (hF8.ev 21 rfl))) rfl (by decide) (rtag_any k h (nonce ++ (xorS (keyedS k [99, 105, 112, 104, 101, 114]) nonce 1 d)) w3 hLk (by first | omega | decide | (simp; omega))) fun a9 w4 hb4 hF9 hM4 => ?_
    refine sq (v := (.string ⟨(nonce ++ (xorS (keyedS k [99, 105, 112, 104, 101, 114]) nonce 1 d) ++ (tagS k h (nonce ++ (xorS (keyedS k [99, 105, 112, 104, 101, 114]) nonce 1 d)))).toArray⟩)) hF9 (wantedS rfl) (run_cat rfl (hF9.ev 18 rfl) (hF9.ev 22 rfl) (by first | omega | decide | (simp; omega))) rfl (by decide) fun a10 hF10 => ?_
    refine sq (v := (.string ⟨(nonce ++ (xorS (keyedS k [99, 105, 112, 104, 101, 114]) nonce 1 d) ++ (tagS k h (nonce ++ (xorS (keyedS k [99, 105, 112, 104, 101, 114]) nonce 1 d)))).toArray⟩)) hF10 (wantedS rfl) (run_as rfl (hF10.ev 23 rfl)) rfl (by decide) fun a11 hF11 => ?_
    refine sqEnd ?_
    clear hF4 hF5 hF6 hF7 hF8 hF9 hF10 hM3
    refine nx ?_
    refine wp_ret ?_
    exact ret1 hF11 rfl rfl ⟨rfl, hM4.below⟩
theorem openS_short (k h x : List UInt8) (hs : x.length < 44) : openS k h x = ([], 4) := by unfold openS; rw [if_pos hs]
theorem openS_bent (k h x : List UInt8) (hs : ¬ x.length < 44) (ht : ¬ tagS k h (x.take (x.length - 32)) = x.drop (x.length - 32)) : openS k h x = ([], 5) := by unfold openS; rw [if_neg hs, if_neg ht]
theorem openS_ok (k h x : List UInt8) (hs : ¬ x.length < 44) (ht : tagS k h (x.take (x.length - 32)) = x.drop (x.length - 32)) : openS k h x = (xorS (keyedS k cipherT) (nonceS (x.take (x.length - 32))) 1 ((x.take (x.length - 32)).drop 12), 0) := by unfold openS; rw [if_neg hs, if_pos ht]
theorem nonceS_take (x : List UInt8) (n : Nat) (h : 12 ≤ n) (hn : n ≤ x.length) : nonceS (x.take n) = nonceS x := by
  unfold nonceS
  rw [List.take_take, Nat.min_eq_left h, List.length_take, Nat.min_eq_left hn, show 12 - n = 0 by omega, show 12 - x.length = 0 by omega]
set_option maxRecDepth 100000 in
set_option maxHeartbeats 1000000 in
theorem ropen_any (k h x : List UInt8) (w : World) (hLk : k.length = 32) (hl : h.length + x.length < 2 ^ 30) :
    Calls Tryd.prog 42 #[.agg (cells8 k), .string ⟨h.toArray⟩, .string ⟨x.toArray⟩] w fun e w' => e = .returned (.tuple #[.string ⟨(openS k h x).1.toArray⟩, .int .i64 (openS k h x).2]) ∧ Below w.heap.size w w' := by
  by_cases hs : x.length < 44
  · rw [openS_short k h x hs]
    refine walk_enter Tryd.func42 rfl rfl rfl fun a0 hF0 => ?_
    have hM0 := Mem.new w
    refine wp_seq ?_
    refine wp_region_lit ?_
    refine sqNew (cs := (cells8 k)) (t := 24) hF0 hM0 (wantedS rfl) (run_box rfl (hF0.ev 0 rfl)) rfl (by decide) fun g0 a1 w1 hgg0 hb1 hF1 hM1 => ?_
    refine sq (v := (.string ⟨List.toArray []⟩)) hF1 (wantedS rfl) (run_as rfl rfl) rfl (by decide) fun a2 hF2 => ?_
    refine sq (v := (.int .i64 0)) hF2 (wantedS rfl) (run_as rfl rfl) rfl (by decide) fun a3 hF3 => ?_
    refine sqEnd ?_
    clear hF0 hF1 hF2 hM0
    refine nx ?_
    refine wp_seq ?_
    refine wp_region_lit ?_
    refine sq (v := (.string ⟨x.toArray⟩)) hF3 (wantedS rfl) (run_mv rfl (hF3.ev 2 rfl)) rfl (by decide) fun a4 hF4 => ?_
    refine sq (v := (.int .i64 (x.length : Int))) hF4 (wantedS rfl) (run_len rfl (hF4.ev 9 rfl) rfl Tryd.underlying9) rfl (by decide) fun a5 hF5 => ?_
    refine sq (v := (.int .i64 ((x.length : Int) - 32))) hF5 (wantedS rfl) (run_sub (r := (x.length : Int) - 32) rfl (hF5.ev 10 rfl) rfl (by rw [IntKind.wrap_i64]; omega)) rfl (by decide) fun a6 hF6 => ?_
    refine sq (v := (.int .i64 ((x.length : Int) - 32))) hF6 (wantedS rfl) (run_as rfl (hF6.ev 11 rfl)) rfl (by decide) fun a7 hF7 => ?_
    refine sqEnd ?_
    clear hF3 hF4 hF5 hF6
    refine nx ?_
    refine wp_seq ?_
    refine wp_seq ?_
    refine wp_region_lit ?_
    refine sq (v := (.int .i64 ((x.length : Int) - 32))) hF7 (wantedS rfl) (run_mv rfl (hF7.ev 8 rfl)) rfl (by decide) fun a8 hF8 => ?_
    refine sq (v := (.bool true)) hF8 (wantedS rfl) (run_lss rfl (hF8.ev 12 rfl) rfl (decide_eq_true (by omega))) rfl (by decide) fun a9 hF9 => ?_
    refine sqEnd ?_
    clear hF7 hF8
    refine nx ?_
    refine wp_cond_true (hF9.ev 13 rfl) ?_
    refine wp_seq ?_
    refine wp_region_lit ?_
    refine sq (v := (.string ⟨List.toArray []⟩)) hF9 (wantedS rfl) (run_as rfl rfl) rfl (by decide) fun a10 hF10 => ?_
    refine sq (v := (.int .i64 4)) hF10 (wantedS rfl) (run_as rfl rfl) rfl (by decide) fun a11 hF11 => ?_
    refine sqEnd ?_
    clear hF9 hF10
    refine nx ?_
    refine wp_ret ?_
    refine nxRet ?_
    exact ret2 hF11 rfl rfl rfl ⟨rfl, hM1.below⟩
  have hlt : (x.take (x.length - 32)).length = x.length - 32 := by rw [List.length_take]; omega
  have hcond : (x.drop (x.length - 32) == tagS k h (x.take (x.length - 32))) = decide (tagS k h (x.take (x.length - 32)) = x.drop (x.length - 32)) := by rw [Bool.eq_iff_iff, beq_iff_eq, decide_eq_true_eq]; exact eq_comm
  by_cases ht : tagS k h (x.take (x.length - 32)) = x.drop (x.length - 32)
  · rw [openS_ok k h x hs ht]
    have hlm : ((x.drop 12).take (x.length - 32 - 12)).length = x.length - 44 := by rw [List.length_take, List.length_drop]; omega
    refine walk_enter Tryd.func42 rfl rfl rfl fun a0 hF0 => ?_
    have hM0 := Mem.new w
    refine wp_seq ?_
    refine wp_region_lit ?_
    refine sqNew (cs := (cells8 k)) (t := 24) hF0 hM0 (wantedS rfl) (run_box rfl (hF0.ev 0 rfl)) rfl (by decide) fun g0 a1 w1 hgg0 hb1 hF1 hM1 => ?_
    refine sq (v := (.string ⟨List.toArray []⟩)) hF1 (wantedS rfl) (run_as rfl rfl) rfl (by decide) fun a2 hF2 => ?_
    refine sq (v := (.int .i64 0)) hF2 (wantedS rfl) (run_as rfl rfl) rfl (by decide) fun a3 hF3 => ?_
    refine sqEnd ?_
    clear hF0 hF1 hF2 hM0
    refine nx ?_
    refine wp_seq ?_
    refine wp_region_lit ?_
    refine sq (v := (.string ⟨x.toArray⟩)) hF3 (wantedS rfl) (run_mv rfl (hF3.ev 2 rfl)) rfl (by decide) fun a4 hF4 => ?_
    refine sq (v := (.int .i64 (x.length : Int))) hF4 (wantedS rfl) (run_len rfl (hF4.ev 9 rfl) rfl Tryd.underlying9) rfl (by decide) fun a5 hF5 => ?_
    refine sq (v := (.int .i64 ((x.length : Int) - 32))) hF5 (wantedS rfl) (run_sub (r := (x.length : Int) - 32) rfl (hF5.ev 10 rfl) rfl (by rw [IntKind.wrap_i64]; omega)) rfl (by decide) fun a6 hF6 => ?_
    refine sq (v := (.int .i64 ((x.length : Int) - 32))) hF6 (wantedS rfl) (run_as rfl (hF6.ev 11 rfl)) rfl (by decide) fun a7 hF7 => ?_
    refine sqEnd ?_
    clear hF3 hF4 hF5 hF6
    refine nx ?_
    refine wp_seq ?_
    refine wp_seq ?_
    refine wp_region_lit ?_
    refine sq (v := (.int .i64 ((x.length : Int) - 32))) hF7 (wantedS rfl) (run_mv rfl (hF7.ev 8 rfl)) rfl (by decide) fun a8 hF8 => ?_
    refine sq (v := (.bool false)) hF8 (wantedS rfl) (run_lss rfl (hF8.ev 12 rfl) rfl (decide_eq_false (by omega))) rfl (by decide) fun a9 hF9 => ?_
    refine sqEnd ?_
    clear hF7 hF8
    refine nx ?_
    refine wp_cond_false (hF9.ev 13 rfl) ?_
    refine wp_skip ?_
    refine nx ?_
    refine wp_seq ?_
    refine wp_seq ?_
    obtain ⟨KL, hKL⟩ : ∃ KL, KL = [kval (.string ⟨x.toArray⟩), kval (.int .i64 ((x.length : Int) - 32)), kval (.string ⟨(x.drop (x.length - 32)).toArray⟩), kval (.agg (cells8 k)), kval (.string ⟨h.toArray⟩), kval (.string ⟨x.toArray⟩), kval (.int .i64 ((x.length : Int) - 32)), kval (.string ⟨(x.take (x.length - 32)).toArray⟩), kval (.string ⟨(tagS k h (x.take (x.length - 32))).toArray⟩), kval (.bool false)] := ⟨_, rfl⟩
    have K0 : KL.getD 0 kany = kval (.string ⟨x.toArray⟩) := by rw [hKL]; rfl
    have K1 : KL.getD 1 kany = kval (.int .i64 ((x.length : Int) - 32)) := by rw [hKL]; rfl
    have K2 : KL.getD 2 kany = kval (.string ⟨(x.drop (x.length - 32)).toArray⟩) := by rw [hKL]; rfl
    have K3 : KL.getD 3 kany = kval (.agg (cells8 k)) := by rw [hKL]; rfl
    have K4 : KL.getD 4 kany = kval (.string ⟨h.toArray⟩) := by rw [hKL]; rfl
    have K5 : KL.getD 5 kany = kval (.string ⟨x.toArray⟩) := by rw [hKL]; rfl
    have K6 : KL.getD 6 kany = kval (.int .i64 ((x.length : Int) - 32)) := by rw [hKL]; rfl
    have K7 : KL.getD 7 kany = kval (.string ⟨(x.take (x.length - 32)).toArray⟩) := by rw [hKL]; rfl
    have K8 : KL.getD 8 kany = kval (.string ⟨(tagS k h (x.take (x.length - 32))).toArray⟩) := by rw [hKL]; rfl
    have K9 : KL.getD 9 kany = kval (.bool false) := by rw [hKL]; rfl
    clear hKL
    refine wp_region_kd 32 (by kernel_rfl) (by kernel_rfl) (by kernel_rfl) hF9.size KL ?_ ?_
    · refine ⟨?_, ?_, ?_, ?_, ?_, ?_, ?_, ?_, ?_, ?_, trivial⟩
      · refine asks_mk fun a W hS hh hd => ⟨wanted_yes rfl, ?_⟩
        exact giv_run (run_mv rfl (eval_tmp (hh 2 _ rfl (hF9.at 2 rfl)))) K0
      · refine asks_mk fun a W hS hh hd => ⟨wanted_yes rfl, ?_⟩
        exact giv_run (run_mv rfl (eval_tmp (hh 8 _ rfl (hF9.at 8 rfl)))) K1
      · refine asks_mk fun a W hS hh hd => ⟨wanted_yes rfl, ?_⟩
        exact giv_run (run_sFrom (m := (x.length - 32)) rfl (eval_tmp (hd.val (j := 0) (s := 14) (by kernel_rfl) K0)) (eval_tmp (hd.val (j := 1) (s := 15) (by kernel_rfl) K1)) Tryd.underlying9 (by omega) (by omega)) K2
      · refine asks_mk fun a W hS hh hd => ⟨wanted_yes rfl, ?_⟩
        exact giv_run (run_ldB rfl (eval_tmp (hh 3 _ rfl (hF9.at 3 rfl))) ((hM1.grow hS).at 0 rfl) Tryd.underlying24 rfl sz32k (szOf hLk)) K3
      · refine asks_mk fun a W hS hh hd => ⟨wanted_yes rfl, ?_⟩
        exact giv_run (run_mv rfl (eval_tmp (hh 1 _ rfl (hF9.at 1 rfl)))) K4
      · refine asks_mk fun a W hS hh hd => ⟨wanted_yes rfl, ?_⟩
        exact giv_run (run_mv rfl (eval_tmp (hh 2 _ rfl (hF9.at 2 rfl)))) K5
      · refine asks_mk fun a W hS hh hd => ⟨wanted_yes rfl, ?_⟩
        exact giv_run (run_mv rfl (eval_tmp (hh 8 _ rfl (hF9.at 8 rfl)))) K6
      · refine asks_mk fun a W hS hh hd => ⟨wanted_yes rfl, ?_⟩
        exact giv_run (run_sTo (n := (x.length - 32)) rfl (eval_tmp (hd.val (j := 5) (s := 19) (by kernel_rfl) K5)) (eval_tmp (hd.val (j := 6) (s := 20) (by kernel_rfl) K6)) Tryd.underlying9 (by omega) (by omega)) K7
      · refine asks_mk fun a W hS hh hd => ⟨wanted_yes rfl, ?_⟩
        exact giv_call (run_call rfl Tryd.func61 (by kernel_rfl) rfl (mapE3 (eval_tmp (hd.val (j := 3) (s := 17) (by kernel_rfl) K3)) (eval_tmp (hd.val (j := 4) (s := 18) (by kernel_rfl) K4)) (eval_tmp (hd.val (j := 7) (s := 21) (by kernel_rfl) K7)))) (rtag_any k h (x.take (x.length - 32)) W hLk (by first | omega | decide | (simp; omega))) K8
      · refine asks_mk fun a W hS hh hd => ⟨wanted_yes rfl, ?_⟩
        exact giv_run (run_nes rfl (eval_tmp (hd.val (j := 2) (s := 16) (by kernel_rfl) K2)) (eval_tmp (hd.val (j := 8) (s := 22) (by kernel_rfl) K8)) (by rw [hcond, decide_eq_true ht]; rfl)) K9
    · intro a10 w2 hb2 hK
      have e0 := hK.val (i := 0) (s := 14) (by kernel_rfl) K0
      have e1 := hK.val (i := 1) (s := 15) (by kernel_rfl) K1
      have e2 := hK.val (i := 2) (s := 16) (by kernel_rfl) K2
      have e3 := hK.val (i := 3) (s := 17) (by kernel_rfl) K3
      have e4 := hK.val (i := 4) (s := 18) (by kernel_rfl) K4
      have e5 := hK.val (i := 5) (s := 19) (by kernel_rfl) K5
      have e6 := hK.val (i := 6) (s := 20) (by kernel_rfl) K6
      have e7 := hK.val (i := 7) (s := 21) (by kernel_rfl) K7
      have e8 := hK.val (i := 8) (s := 22) (by kernel_rfl) K8
      have e9 := hK.val (i := 9) (s := 23) (by kernel_rfl) K9
      have hF10 : Fr a10 32 [(0, (.agg (cells8 k))), (2, (.string ⟨x.toArray⟩)), (3, (.pointer (some ⟨g0, 0, none⟩))), (6, (.string ⟨List.toArray []⟩)), (7, (.int .i64 0)), (8, (.int .i64 ((x.length : Int) - 32))), (9, (.string ⟨x.toArray⟩)), (10, (.int .i64 (x.length : Int))), (11, (.int .i64 ((x.length : Int) - 32))), (12, (.int .i64 ((x.length : Int) - 32))), (13, (.bool false)), (23, (.bool false))] := (hK.fr hF9 [(.string ⟨x.toArray⟩), (.int .i64 ((x.length : Int) - 32)), (.string ⟨(x.drop (x.length - 32)).toArray⟩), (.agg (cells8 k)), (.string ⟨h.toArray⟩), (.string ⟨x.toArray⟩), (.int .i64 ((x.length : Int) - 32)), (.string ⟨(x.take (x.length - 32)).toArray⟩), (.string ⟨(tagS k h (x.take (x.length - 32))).toArray⟩), (.bool false)] ⟨e0, e1, e2, e3, e4, e5, e6, e7, e8, e9, trivial⟩).sub ⟨rfl, rfl, rfl, rfl, rfl, rfl, rfl, rfl, rfl, rfl, rfl, rfl, trivial⟩
      have hM2 := hM1.grow hb2
      clear hK K0 e0 K1 e1 K2 e2 K3 e3 K4 e4 K5 e5 K6 e6 K7 e7 K8 e8 K9 e9
      clear hF9 hM1
      refine nx ?_
      refine wp_cond_false (hF10.ev 23 rfl) ?_
      refine wp_skip ?_
      refine nx ?_
      refine wp_seq ?_
      obtain ⟨KL, hKL⟩ : ∃ KL, KL = [kval (.agg (cells8 k)), kval (.agg (cells8 (keyedS k [99, 105, 112, 104, 101, 114]))), kval (.string ⟨x.toArray⟩), kval (.agg (cells8 (nonceS x))), kval (.string ⟨x.toArray⟩), kval (.int .i64 ((x.length : Int) - 32)), kval (.string ⟨((x.drop 12).take (x.length - 32 - 12)).toArray⟩), kval (.string ⟨(xorS (keyedS k [99, 105, 112, 104, 101, 114]) (nonceS x) 1 ((x.drop 12).take (x.length - 32 - 12))).toArray⟩), kval (.string ⟨(xorS (keyedS k [99, 105, 112, 104, 101, 114]) (nonceS x) 1 ((x.drop 12).take (x.length - 32 - 12))).toArray⟩), kval (.int .i64 0)] := ⟨_, rfl⟩
      have K0 : KL.getD 0 kany = kval (.agg (cells8 k)) := by rw [hKL]; rfl
      have K1 : KL.getD 1 kany = kval (.agg (cells8 (keyedS k [99, 105, 112, 104, 101, 114]))) := by rw [hKL]; rfl
      have K2 : KL.getD 2 kany = kval (.string ⟨x.toArray⟩) := by rw [hKL]; rfl
      have K3 : KL.getD 3 kany = kval (.agg (cells8 (nonceS x))) := by rw [hKL]; rfl
      have K4 : KL.getD 4 kany = kval (.string ⟨x.toArray⟩) := by rw [hKL]; rfl
      have K5 : KL.getD 5 kany = kval (.int .i64 ((x.length : Int) - 32)) := by rw [hKL]; rfl
      have K6 : KL.getD 6 kany = kval (.string ⟨((x.drop 12).take (x.length - 32 - 12)).toArray⟩) := by rw [hKL]; rfl
      have K7 : KL.getD 7 kany = kval (.string ⟨(xorS (keyedS k [99, 105, 112, 104, 101, 114]) (nonceS x) 1 ((x.drop 12).take (x.length - 32 - 12))).toArray⟩) := by rw [hKL]; rfl
      have K8 : KL.getD 8 kany = kval (.string ⟨(xorS (keyedS k [99, 105, 112, 104, 101, 114]) (nonceS x) 1 ((x.drop 12).take (x.length - 32 - 12))).toArray⟩) := by rw [hKL]; rfl
      have K9 : KL.getD 9 kany = kval (.int .i64 0) := by rw [hKL]; rfl
      clear hKL
      refine wp_region_kd 32 (by kernel_rfl) (by kernel_rfl) (by kernel_rfl) hF10.size KL ?_ ?_
      · refine ⟨?_, ?_, ?_, ?_, ?_, ?_, ?_, ?_, ?_, ?_, trivial⟩
        · refine asks_mk fun a W hS hh hd => ⟨wanted_yes rfl, ?_⟩
          exact giv_run (run_ldB rfl (eval_tmp (hh 3 _ rfl (hF10.at 3 rfl))) ((hM2.grow hS).at 0 rfl) Tryd.underlying24 rfl sz32k (szOf hLk)) K0
        · refine asks_mk fun a W hS hh hd => ⟨wanted_yes rfl, ?_⟩
          exact giv_call (run_call rfl Tryd.func63 (by kernel_rfl) rfl (mapE2 (eval_tmp (hd.val (j := 0) (s := 24) (by kernel_rfl) K0)) rfl)) (rof_any k [99, 105, 112, 104, 101, 114] W hLk (by first | omega | decide | (simp; omega))) K1
        · refine asks_mk fun a W hS hh hd => ⟨wanted_yes rfl, ?_⟩
          exact giv_run (run_mv rfl (eval_tmp (hh 2 _ rfl (hF10.at 2 rfl)))) K2
        · refine asks_mk fun a W hS hh hd => ⟨wanted_yes rfl, ?_⟩
          exact giv_call (run_call rfl Tryd.func64 (by kernel_rfl) rfl (mapE1 (eval_tmp (hd.val (j := 2) (s := 26) (by kernel_rfl) K2)))) (rnonce_any x W (by unfold maxLen; omega)) K3
        · refine asks_mk fun a W hS hh hd => ⟨wanted_yes rfl, ?_⟩
          exact giv_run (run_mv rfl (eval_tmp (hh 2 _ rfl (hF10.at 2 rfl)))) K4
        · refine asks_mk fun a W hS hh hd => ⟨wanted_yes rfl, ?_⟩
          exact giv_run (run_mv rfl (eval_tmp (hh 8 _ rfl (hF10.at 8 rfl)))) K5
        · refine asks_mk fun a W hS hh hd => ⟨wanted_yes rfl, ?_⟩
          exact giv_run (run_sMid (m := 12) (n := (x.length - 32)) rfl (eval_tmp (hd.val (j := 4) (s := 28) (by kernel_rfl) K4)) rfl (eval_tmp (hd.val (j := 5) (s := 29) (by kernel_rfl) K5)) Tryd.underlying9 (by omega) (by omega) (by omega) (by omega)) K6
        · refine asks_mk fun a W hS hh hd => ⟨wanted_yes rfl, ?_⟩
          exact giv_call (run_call rfl Tryd.func62 (by kernel_rfl) rfl (mapE4 (eval_tmp (hd.val (j := 1) (s := 25) (by kernel_rfl) K1)) (eval_tmp (hd.val (j := 3) (s := 27) (by kernel_rfl) K3)) rfl (eval_tmp (hd.val (j := 6) (s := 30) (by kernel_rfl) K6)))) (rxor1_any (keyedS k [99, 105, 112, 104, 101, 114]) (nonceS x) ((x.drop 12).take (x.length - 32 - 12)) W (keyedS_len _ _) (nonceS_len _) (by first | omega | decide | (simp; omega))) K7
        · refine asks_mk fun a W hS hh hd => ⟨wanted_yes rfl, ?_⟩
          exact giv_run (run_as rfl (eval_tmp (hd.val (j := 7) (s := 31) (by kernel_rfl) K7))) K8
        · refine asks_mk fun a W hS hh hd => ⟨wanted_yes rfl, ?_⟩
          exact giv_run (run_as rfl rfl) K9
      · intro a11 w3 hb3 hK
        have e0 := hK.val (i := 0) (s := 24) (by kernel_rfl) K0
        have e1 := hK.val (i := 1) (s := 25) (by kernel_rfl) K1
        have e2 := hK.val (i := 2) (s := 26) (by kernel_rfl) K2
        have e3 := hK.val (i := 3) (s := 27) (by kernel_rfl) K3
        have e4 := hK.val (i := 4) (s := 28) (by kernel_rfl) K4
        have e5 := hK.val (i := 5) (s := 29) (by kernel_rfl) K5
        have e6 := hK.val (i := 6) (s := 30) (by kernel_rfl) K6
        have e7 := hK.val (i := 7) (s := 31) (by kernel_rfl) K7
        have e8 := hK.val (i := 8) (s := 6) (by kernel_rfl) K8
        have e9 := hK.val (i := 9) (s := 7) (by kernel_rfl) K9
        have hF11 : Fr a11 32 [(0, (.agg (cells8 k))), (2, (.string ⟨x.toArray⟩)), (3, (.pointer (some ⟨g0, 0, none⟩))), (6, (.string ⟨(xorS (keyedS k [99, 105, 112, 104, 101, 114]) (nonceS x) 1 ((x.drop 12).take (x.length - 32 - 12))).toArray⟩)), (7, (.int .i64 0)), (8, (.int .i64 ((x.length : Int) - 32))), (9, (.string ⟨x.toArray⟩)), (10, (.int .i64 (x.length : Int))), (11, (.int .i64 ((x.length : Int) - 32))), (12, (.int .i64 ((x.length : Int) - 32))), (13, (.bool false)), (23, (.bool false))] := (hK.fr hF10 [(.agg (cells8 k)), (.agg (cells8 (keyedS k [99, 105, 112, 104, 101, 114]))), (.string ⟨x.toArray⟩), (.agg (cells8 (nonceS x))), (.string ⟨x.toArray⟩), (.int .i64 ((x.length : Int) - 32)), (.string ⟨((x.drop 12).take (x.length - 32 - 12)).toArray⟩), (.string ⟨(xorS (keyedS k [99, 105, 112, 104, 101, 114]) (nonceS x) 1 ((x.drop 12).take (x.length - 32 - 12))).toArray⟩), (.string ⟨(xorS (keyedS k [99, 105, 112, 104, 101, 114]) (nonceS x) 1 ((x.drop 12).take (x.length - 32 - 12))).toArray⟩), (.int .i64 0)] ⟨e0, e1, e2, e3, e4, e5, e6, e7, e8, e9, trivial⟩).sub ⟨rfl, rfl, rfl, rfl, rfl, rfl, rfl, rfl, rfl, rfl, rfl, rfl, trivial⟩
        have hM3 := hM2.grow hb3
        clear hK K0 e0 K1 e1 K2 e2 K3 e3 K4 e4 K5 e5 K6 e6 K7 e7 K8 e8 K9 e9
        clear hF10 hM2
        refine nx ?_
        refine wp_ret ?_
        exact ret2 hF11 rfl rfl rfl ⟨by rw [nonceS_take x _ (by omega) (by omega), List.drop_take]; rfl, hM3.below⟩
  · rw [openS_bent k h x hs ht]
    refine walk_enter Tryd.func42 rfl rfl rfl fun a0 hF0 => ?_
    have hM0 := Mem.new w
    refine wp_seq ?_
    refine wp_region_lit ?_
    refine sqNew (cs := (cells8 k)) (t := 24) hF0 hM0 (wantedS rfl) (run_box rfl (hF0.ev 0 rfl)) rfl (by decide) fun g0 a1 w1 hgg0 hb1 hF1 hM1 => ?_
    refine sq (v := (.string ⟨List.toArray []⟩)) hF1 (wantedS rfl) (run_as rfl rfl) rfl (by decide) fun a2 hF2 => ?_
    refine sq (v := (.int .i64 0)) hF2 (wantedS rfl) (run_as rfl rfl) rfl (by decide) fun a3 hF3 => ?_
    refine sqEnd ?_
    clear hF0 hF1 hF2 hM0
    refine nx ?_
    refine wp_seq ?_
    refine wp_region_lit ?_
    refine sq (v := (.string ⟨x.toArray⟩)) hF3 (wantedS rfl) (run_mv rfl (hF3.ev 2 rfl)) rfl (by decide) fun a4 hF4 => ?_
    refine sq (v := (.int .i64 (x.length : Int))) hF4 (wantedS rfl) (run_len rfl (hF4.ev 9 rfl) rfl Tryd.underlying9) rfl (by decide) fun a5 hF5 => ?_
    refine sq (v := (.int .i64 ((x.length : Int) - 32))) hF5 (wantedS rfl) (run_sub (r := (x.length : Int) - 32) rfl (hF5.ev 10 rfl) rfl (by rw [IntKind.wrap_i64]; omega)) rfl (by decide) fun a6 hF6 => ?_
    refine sq (v := (.int .i64 ((x.length : Int) - 32))) hF6 (wantedS rfl) (run_as rfl (hF6.ev 11 rfl)) rfl (by decide) fun a7 hF7 => ?_
    refine sqEnd ?_
    clear hF3 hF4 hF5 hF6
    refine nx ?_
    refine wp_seq ?_
    refine wp_seq ?_
    refine wp_region_lit ?_
    refine sq (v := (.int .i64 ((x.length : Int) - 32))) hF7 (wantedS rfl) (run_mv rfl (hF7.ev 8 rfl)) rfl (by decide) fun a8 hF8 => ?_
    refine sq (v := (.bool false)) hF8 (wantedS rfl) (run_lss rfl (hF8.ev 12 rfl) rfl (decide_eq_false (by omega))) rfl (by decide) fun a9 hF9 => ?_
    refine sqEnd ?_
    clear hF7 hF8
    refine nx ?_
    refine wp_cond_false (hF9.ev 13 rfl) ?_
    refine wp_skip ?_
    refine nx ?_
    refine wp_seq ?_
    refine wp_seq ?_
    obtain ⟨KL, hKL⟩ : ∃ KL, KL = [kval (.string ⟨x.toArray⟩), kval (.int .i64 ((x.length : Int) - 32)), kval (.string ⟨(x.drop (x.length - 32)).toArray⟩), kval (.agg (cells8 k)), kval (.string ⟨h.toArray⟩), kval (.string ⟨x.toArray⟩), kval (.int .i64 ((x.length : Int) - 32)), kval (.string ⟨(x.take (x.length - 32)).toArray⟩), kval (.string ⟨(tagS k h (x.take (x.length - 32))).toArray⟩), kval (.bool true)] := ⟨_, rfl⟩
    have K0 : KL.getD 0 kany = kval (.string ⟨x.toArray⟩) := by rw [hKL]; rfl
    have K1 : KL.getD 1 kany = kval (.int .i64 ((x.length : Int) - 32)) := by rw [hKL]; rfl
    have K2 : KL.getD 2 kany = kval (.string ⟨(x.drop (x.length - 32)).toArray⟩) := by rw [hKL]; rfl
    have K3 : KL.getD 3 kany = kval (.agg (cells8 k)) := by rw [hKL]; rfl
    have K4 : KL.getD 4 kany = kval (.string ⟨h.toArray⟩) := by rw [hKL]; rfl
    have K5 : KL.getD 5 kany = kval (.string ⟨x.toArray⟩) := by rw [hKL]; rfl
    have K6 : KL.getD 6 kany = kval (.int .i64 ((x.length : Int) - 32)) := by rw [hKL]; rfl
    have K7 : KL.getD 7 kany = kval (.string ⟨(x.take (x.length - 32)).toArray⟩) := by rw [hKL]; rfl
    have K8 : KL.getD 8 kany = kval (.string ⟨(tagS k h (x.take (x.length - 32))).toArray⟩) := by rw [hKL]; rfl
    have K9 : KL.getD 9 kany = kval (.bool true) := by rw [hKL]; rfl
    clear hKL
    refine wp_region_kd 32 (by kernel_rfl) (by kernel_rfl) (by kernel_rfl) hF9.size KL ?_ ?_
    · refine ⟨?_, ?_, ?_, ?_, ?_, ?_, ?_, ?_, ?_, ?_, trivial⟩
      · refine asks_mk fun a W hS hh hd => ⟨wanted_yes rfl, ?_⟩
        exact giv_run (run_mv rfl (eval_tmp (hh 2 _ rfl (hF9.at 2 rfl)))) K0
      · refine asks_mk fun a W hS hh hd => ⟨wanted_yes rfl, ?_⟩
        exact giv_run (run_mv rfl (eval_tmp (hh 8 _ rfl (hF9.at 8 rfl)))) K1
      · refine asks_mk fun a W hS hh hd => ⟨wanted_yes rfl, ?_⟩
        exact giv_run (run_sFrom (m := (x.length - 32)) rfl (eval_tmp (hd.val (j := 0) (s := 14) (by kernel_rfl) K0)) (eval_tmp (hd.val (j := 1) (s := 15) (by kernel_rfl) K1)) Tryd.underlying9 (by omega) (by omega)) K2
      · refine asks_mk fun a W hS hh hd => ⟨wanted_yes rfl, ?_⟩
        exact giv_run (run_ldB rfl (eval_tmp (hh 3 _ rfl (hF9.at 3 rfl))) ((hM1.grow hS).at 0 rfl) Tryd.underlying24 rfl sz32k (szOf hLk)) K3
      · refine asks_mk fun a W hS hh hd => ⟨wanted_yes rfl, ?_⟩
        exact giv_run (run_mv rfl (eval_tmp (hh 1 _ rfl (hF9.at 1 rfl)))) K4
      · refine asks_mk fun a W hS hh hd => ⟨wanted_yes rfl, ?_⟩
        exact giv_run (run_mv rfl (eval_tmp (hh 2 _ rfl (hF9.at 2 rfl)))) K5
      · refine asks_mk fun a W hS hh hd => ⟨wanted_yes rfl, ?_⟩
        exact giv_run (run_mv rfl (eval_tmp (hh 8 _ rfl (hF9.at 8 rfl)))) K6
      · refine asks_mk fun a W hS hh hd => ⟨wanted_yes rfl, ?_⟩
        exact giv_run (run_sTo (n := (x.length - 32)) rfl (eval_tmp (hd.val (j := 5) (s := 19) (by kernel_rfl) K5)) (eval_tmp (hd.val (j := 6) (s := 20) (by kernel_rfl) K6)) Tryd.underlying9 (by omega) (by omega)) K7
      · refine asks_mk fun a W hS hh hd => ⟨wanted_yes rfl, ?_⟩
        exact giv_call (run_call rfl Tryd.func61 (by kernel_rfl) rfl (mapE3 (eval_tmp (hd.val (j := 3) (s := 17) (by kernel_rfl) K3)) (eval_tmp (hd.val (j := 4) (s := 18) (by kernel_rfl) K4)) (eval_tmp (hd.val (j := 7) (s := 21) (by kernel_rfl) K7)))) (rtag_any k h (x.take (x.length - 32)) W hLk (by first | omega | decide | (simp; omega))) K8
      · refine asks_mk fun a W hS hh hd => ⟨wanted_yes rfl, ?_⟩
        exact giv_run (run_nes rfl (eval_tmp (hd.val (j := 2) (s := 16) (by kernel_rfl) K2)) (eval_tmp (hd.val (j := 8) (s := 22) (by kernel_rfl) K8)) (by rw [hcond, decide_eq_false ht]; rfl)) K9
    · intro a10 w2 hb2 hK
      have e0 := hK.val (i := 0) (s := 14) (by kernel_rfl) K0
      have e1 := hK.val (i := 1) (s := 15) (by kernel_rfl) K1
      have e2 := hK.val (i := 2) (s := 16) (by kernel_rfl) K2
      have e3 := hK.val (i := 3) (s := 17) (by kernel_rfl) K3
      have e4 := hK.val (i := 4) (s := 18) (by kernel_rfl) K4
      have e5 := hK.val (i := 5) (s := 19) (by kernel_rfl) K5
      have e6 := hK.val (i := 6) (s := 20) (by kernel_rfl) K6
      have e7 := hK.val (i := 7) (s := 21) (by kernel_rfl) K7
      have e8 := hK.val (i := 8) (s := 22) (by kernel_rfl) K8
      have e9 := hK.val (i := 9) (s := 23) (by kernel_rfl) K9
      have hF10 : Fr a10 32 [(0, (.agg (cells8 k))), (2, (.string ⟨x.toArray⟩)), (3, (.pointer (some ⟨g0, 0, none⟩))), (6, (.string ⟨List.toArray []⟩)), (7, (.int .i64 0)), (8, (.int .i64 ((x.length : Int) - 32))), (9, (.string ⟨x.toArray⟩)), (10, (.int .i64 (x.length : Int))), (11, (.int .i64 ((x.length : Int) - 32))), (12, (.int .i64 ((x.length : Int) - 32))), (13, (.bool false)), (23, (.bool true))] := (hK.fr hF9 [(.string ⟨x.toArray⟩), (.int .i64 ((x.length : Int) - 32)), (.string ⟨(x.drop (x.length - 32)).toArray⟩), (.agg (cells8 k)), (.string ⟨h.toArray⟩), (.string ⟨x.toArray⟩), (.int .i64 ((x.length : Int) - 32)), (.string ⟨(x.take (x.length - 32)).toArray⟩), (.string ⟨(tagS k h (x.take (x.length - 32))).toArray⟩), (.bool true)] ⟨e0, e1, e2, e3, e4, e5, e6, e7, e8, e9, trivial⟩).sub ⟨rfl, rfl, rfl, rfl, rfl, rfl, rfl, rfl, rfl, rfl, rfl, rfl, trivial⟩
      have hM2 := hM1.grow hb2
      clear hK K0 e0 K1 e1 K2 e2 K3 e3 K4 e4 K5 e5 K6 e6 K7 e7 K8 e8 K9 e9
      clear hF9 hM1
      refine nx ?_
      refine wp_cond_true (hF10.ev 23 rfl) ?_
      refine wp_seq ?_
      refine wp_region_lit ?_
      refine sq (v := (.string ⟨List.toArray []⟩)) hF10 (wantedS rfl) (run_as rfl rfl) rfl (by decide) fun a11 hF11 => ?_
      refine sq (v := (.int .i64 5)) hF11 (wantedS rfl) (run_as rfl rfl) rfl (by decide) fun a12 hF12 => ?_
      refine sqEnd ?_
      clear hF10 hF11
      refine nx ?_
      refine wp_ret ?_
      refine nxRet ?_
      exact ret2 hF12 rfl rfl rfl ⟨rfl, hM2.below⟩
end Go.Proofs.YtioioibcldgknaaDoor
