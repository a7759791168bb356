/- Laws and walks that many claims share: SealRnonce, Ref04. -/
import Derived.Test.YtconhhhggckcbaaDoorSealB
import Derived.Test.YtconhhhggckcbaaDoorBaseB
import Derived.Test.YtconhhhggckcbaaDoorRef01
import Derived.Test.YtconhhhggckcbaaDoorRsumB
import Derived.Test.YtconhhhggckcbaaDoorXorB
/- The walk of the reference's Nonce. -/
namespace Go.Proofs.YtconhhhggckcbaaDoor
open Go.RowKit

def nTo (s : List UInt8) (i : Nat) : List UInt8 := s.take i ++ List.replicate (12 - i) 0
theorem nTo_len (s : List UInt8) (i : Nat) (h : i ≤ 12) (hs : i ≤ s.length) : (nTo s i).length = 12 := by
  unfold nTo; rw [List.length_append, List.length_take, List.length_replicate]; omega
theorem nTo_set (s : List UInt8) (i : Nat) (h : i < 12) (hs : i < s.length) : (nTo s i).set i (bt s i) = nTo s (i + 1) := by
  unfold nTo
  rw [List.set_append_right _ _ (by rw [List.length_take]; omega), List.length_take, show i - min i s.length = 0 by omega, show 12 - i = (12 - (i + 1)) + 1 by omega, List.replicate_succ, List.set_cons_zero]
  have h2 : s.take (i + 1) = s.take i ++ [bt s i] := by rw [List.take_succ_eq_append_getElem hs]; simp [bt, hs]
  rw [h2, List.append_assoc]
  rfl
theorem nTo_end (s : List UInt8) (i : Nat) (h : i ≤ 12) (hs : i ≤ s.length) (he : i = 12 ∨ i = s.length) : nTo s i = nonceS s := by
  unfold nTo nonceS
  rcases he with rfl | rfl
  · rw [show 12 - 12 = 0 by rfl, show 12 - s.length = 0 by omega]
  · rw [List.take_of_length_le (Nat.le_refl _), List.take_of_length_le h]
attribute [local go_sem] str_byte
set_option maxRecDepth 100000 in
set_option maxHeartbeats 1000000 in
theorem rnonce_any (s : List UInt8) (w : World) (hs : s.length ≤ maxLen) :
    Calls Tryd.prog 68 #[.string ⟨s.toArray⟩] w fun e w' => e = .returned (.agg (cells8 (nonceS s))) ∧ Below w.heap.size w w' := by
  unfold maxLen at hs
  go_enter Tryd.func68, Tryd.ntmps68
  have HZ : Hid ((cells8 (List.replicate 12 0)).size = 12) := Lib.hid (by rw [cells8_size, List.length_replicate])
  go_upto_region 2 with (refine wpList_storeNew (c := cells8 (List.replicate 12 0)) rfl 104 (.tmp 3) (.tmp 5) rfl (w.alloc (.cells (cells8 (List.replicate 12 0)) 104)) (w.heap.size + 1) (by simp) rfl (cells8 (List.replicate 12 0)) rfl rfl sz12q HZ.out HZ.out (cells8_one _) ?_)
  change Code.wp _ _ _ _ ((w.alloc (.cells (cells8 (List.replicate 12 0)) 104)).alloc (.cells (cells8 (List.replicate 12 0)) 104))
  have hA : Blk ((w.alloc (.cells (cells8 (List.replicate 12 0)) 104)).alloc (.cells (cells8 (List.replicate 12 0)) 104)) w.heap.size 104 (cells8 (List.replicate 12 0)) := (Blk.new _ _ _).alloc _
  have hB : Blk ((w.alloc (.cells (cells8 (List.replicate 12 0)) 104)).alloc (.cells (cells8 (List.replicate 12 0)) 104)) (w.heap.size + 1) 104 (cells8 (nTo s 0)) := Blk.newAt _ _ _ (by simp)
  have hb : Below w.heap.size w ((w.alloc (.cells (cells8 (List.replicate 12 0)) 104)).alloc (.cells (cells8 (List.replicate 12 0)) 104)) := ((Below.refl _ _).alloc (Nat.le_refl _) _).alloc (by simp) _
  generalize (w.alloc (.cells (cells8 (List.replicate 12 0)) 104)).alloc (.cells (cells8 (List.replicate 12 0)) 104) = w1 at *
  have HA := Lib.hid hA
  have HB := Lib.hid hB
  have HBW := Lib.hid hb
  clear hA hB hb
  simp only [Act.put]
  go_wp2_with fail
  go_loopw [4] (fun v wr => ∃ i : Nat, i ≤ 12 ∧ i ≤ s.length ∧ v = .int .i64 i ∧ Blk wr (w.heap.size + 1) 104 (cells8 (nTo s i)) ∧ Blk wr w.heap.size 104 (cells8 (List.replicate 12 0)) ∧ Below w.heap.size w wr) (fun v _ => 12 - (intOf v).toNat)
  case atStart => exact ⟨0, by omega, by omega, rfl, HB.out, HA.out, HBW.out⟩
  case round =>
    clear HA HB HBW
    obtain ⟨i, hi, his, rfl, hB, hA, hb⟩ := hrel
    have HA := Lib.hid hA
    have HB := Lib.hid hB
    have HBW := Lib.hid hb
    clear hA hb
    by_cases hlt : i < 12 ∧ i < s.length
    · obtain ⟨h1, h2⟩ := hlt
      have h1' : (i : Int) < 12 := by omega
      have h2' : (i : Int) < s.length := by omega
      have HST := Lib.hid (nTo_set s i h1 h2)
      have hc := (hB.cell i).trans (cells8_get _ i (by rw [nTo_len s i hi his]; exact h1))
      have hf := hB.frozen i
      generalize bt (nTo s i) i = y at *
      clear hB
      go_wp2_with fail
      have hB2 := HB.out.set_ i (.int .u8 ((bt s i).toNat : Int))
      rw [cells8_set, HST.out] at hB2
      have HB2 := Lib.hid hB2
      have HA2 := Lib.hid (HA.out.far (p := ⟨w.heap.size + 1, i, none⟩) (by dsimp only; omega) (.int .u8 ((bt s i).toNat : Int)))
      have HBW2 := Lib.hid (HBW.out.setCell (p := ⟨w.heap.size + 1, i, none⟩) (by dsimp only; omega) (.int .u8 ((bt s i).toNat : Int)))
      clear hB2
      go_roundw
      case rel => exact ⟨i + 1, by omega, by omega, by go_num, HB2.out, HA2.out, HBW2.out⟩
      case measure => simp [intOf]; omega
    · have he : i = 12 ∨ i = s.length := by omega
      rw [nTo_end s i hi his he] at HB
      clear hB
      have HS : Hid ((cells8 (nonceS s)).size = 12) := Lib.hid (by rw [cells8_size, nonceS_len])
      obtain ⟨D, hD⟩ : ∃ D, nonceS s = D := ⟨_, rfl⟩
      rw [hD] at HB HS
      have HD := Lib.hid hD
      clear hD
      have hcase : (i : Int) < 12 ∧ ¬ (i : Int) < s.length ∨ ¬ (i : Int) < 12 := by omega
      rcases hcase with ⟨h1, h2⟩ | h1
      all_goals go_wp2_with (first | refine wpList_loadB (cs := cells8 D) rfl 104 (.tmp 3) rfl (w.heap.size + 1) rfl HB.out Tryd.underlying104 rfl sz12q HS.out ?_ | refine wpList_storeB rfl 104 (.tmp 2) (.tmp 21) rfl w.heap.size (cells8 D) rfl rfl HA.out sz12q HS.out HZ.out (cells8_one _) ?_)
      all_goals refine bodyPost_ret (results_B rfl _ (g := w.heap.size) rfl (HA.out.row _) Tryd.underlying104 rfl sz12q HS.out) rfl ⟨by rw [HD.out], below_row HBW.out (Nat.le_refl _) _⟩
end Go.Proofs.YtconhhhggckcbaaDoor
/- The walks of the reference's boxes: of, tag, Seal, Open. Printed by gen_ref04.py. -/
namespace Go.Proofs.YtconhhhggckcbaaDoor
open Go.RowKit

attribute [local simp] xorS_len tagS_len keyedS_len nonceS_len
theorem rkeyed1 (k x : List UInt8) (v : Value) (w : World) (hk : k.length = 32) (hs : Strs w v [x]) (hx : x.length < 2 ^ 45) :
    Calls Tryd.prog 54 #[.agg (cells8 k), v] w fun e w' => e = .returned (.agg (cells8 (keyedS k x))) ∧ Below w.heap.size w w' := by
  have h := rkeyed_any k [x] v w hk hs (by simpa using hx) (by simp)
  rwa [show [x].flatten = x by simp] at h
theorem rxor1_any (k nonce data : List UInt8) (w : World) (hk : k.length = 32) (hn : nonce.length = 12) (hd : data.length < 2147483648) :
    Calls Tryd.prog 79 #[.agg (cells8 k), .agg (cells8 nonce), .int .u32 1, .string ⟨data.toArray⟩] w fun e w' => e = .returned (.string ⟨(xorS k nonce 1 data).toArray⟩) ∧ Below w.heap.size w w' := rxors_any k nonce 1 data w hk hn hd
set_option maxRecDepth 100000 in
set_option maxHeartbeats 1000000 in
theorem rof_any (k x : List UInt8) (w : World) (hLk : k.length = 32) (hx : x.length < 2 ^ 45) :
    Calls Tryd.prog 80 #[.agg (cells8 k), .string ⟨x.toArray⟩] w fun e w' => e = .returned (.agg (cells8 (keyedS k x))) ∧ Below w.heap.size w w' := by
  refine walk_enter Tryd.func80 rfl rfl rfl fun a0 F0 => ?_
  have M0 := Mem.new w
  refine wsl ?_
  refine sqNew (cs := (cells8 k)) (t := 23) F0 M0 (wantedS rfl) (run_box rfl (F0.ev 0 rfl)) rfl (by decide) fun g0 a1 w1 hgg0 hb1 F1 M1 => ?_
  refine sqNew (cs := (cells8 (List.replicate 32 0))) (t := 23) F1 M1 (wantedS rfl) (run_alloc rfl (by kernel_rfl)) rfl (by decide) fun g1 a2 w2 hgg1 hb2 F2 M2 => ?_
  refine sn ?_
  clear F0 F1 M0 M1
  refine wsl ?_
  refine sr F2 (run_ldB rfl (F2.ev 2 rfl) (M2.at 1 rfl) Tryd.underlying23 rfl sz32k (szOf hLk)) rfl rfl rfl fun a3 F3 => ?_
  refine mvS F3 rfl rfl rfl rfl rfl fun a4 F4 => ?_
  refine sqStrs [x] F4 M2 (wantedS rfl) (run_strs1 rfl (F4.ev 6 rfl)) rfl (by decide) fun v2 a5 w3 hsv2 hb3 F5 M3 => ?_
  refine sqC (v := (.agg (cells8 (keyedS k x)))) F5 M3 (wantedS rfl) (run_call rfl Tryd.func54 (by kernel_rfl) rfl (mapE2 (F5.ev 5 rfl) (F5.ev 7 rfl))) rfl (by decide) (rkeyed1 k x _ w3 hLk hsv2 (by first | omega | decide | (simp; omega))) fun a6 w4 hb4 F6 M4 => ?_
  refine sqStore (i := 0) F6 M4 rfl rfl rfl (F6.ev 4 rfl) (F6.ev 8 rfl) rfl sz32k (szOf (keyedS_len _ _)) (szOf List.length_replicate) (cells8_one _) fun a7 w5 F7 M5 => ?_
  refine sn ?_
  clear F2 F3 F4 F5 F6 M2 M3 M4
  refine wp_ret ?_
  exact retB F7 rfl rfl (M5.at 0 rfl) Tryd.underlying23 rfl sz32k (szOf (keyedS_len _ _)) ⟨rfl, M5.below⟩
set_option maxRecDepth 100000 in
set_option maxHeartbeats 1000000 in
theorem rtag_any (k h x : List UInt8) (w : World) (hLk : k.length = 32) (hl : h.length + x.length < 2 ^ 42) :
    Calls Tryd.prog 78 #[.agg (cells8 k), .string ⟨h.toArray⟩, .string ⟨x.toArray⟩] w fun e w' => e = .returned (.string ⟨(tagS k h x).toArray⟩) ∧ Below w.heap.size w w' := by
  have hrl := rowS_len [h, x]
  simp only [List.flatten_cons, List.flatten_nil, List.length_append, List.length_cons, List.length_nil] at hrl
  refine walk_enter Tryd.func78 rfl rfl rfl fun a0 F0 => ?_
  have M0 := Mem.new w
  refine wsl ?_
  refine sqNew (cs := (cells8 k)) (t := 23) F0 M0 (wantedS rfl) (run_box rfl (F0.ev 0 rfl)) rfl (by decide) fun g0 a1 w1 hgg0 hb1 F1 M1 => ?_
  refine sr (v := (.string ⟨List.toArray []⟩)) F1 (run_as rfl rfl) rfl rfl rfl fun a2 F2 => ?_
  refine sn ?_
  clear F0 F1 M0
  refine wsl ?_
  refine sr F2 (run_ldB rfl (F2.ev 3 rfl) (M1.at 0 rfl) Tryd.underlying23 rfl sz32k (szOf hLk)) rfl rfl rfl fun a3 F3 => ?_
  refine sqC (v := (.agg (cells8 (keyedS k [116, 97, 103])))) F3 M1 (wantedS rfl) (run_call rfl Tryd.func80 (by kernel_rfl) rfl (mapE2 (F3.ev 8 rfl) rfl)) rfl (by decide) (rof_any k [116, 97, 103] w1 hLk (by first | omega | decide | (simp; omega))) fun a4 w2 hb2 F4 M2 => ?_
  refine mvS F4 rfl rfl rfl rfl rfl fun a5 F5 => ?_
  refine mvS F5 rfl rfl rfl rfl rfl fun a6 F6 => ?_
  refine sqStrs [h, x] F6 M2 (wantedS rfl) (run_strs2 rfl (F6.ev 10 rfl) (F6.ev 11 rfl)) rfl (by decide) fun v1 a7 w3 hsv1 hb3 F7 M3 => ?_
  refine sqC (v := (.string ⟨(rowS [h, x]).toArray⟩)) F7 M3 (wantedS rfl) (run_call rfl Tryd.func62 (by kernel_rfl) rfl (mapE1 (F7.ev 12 rfl))) rfl (by decide) (rrow_any [h, x] _ w3 hsv1 (by simp; omega) (by simp)) fun a8 w4 hb4 F8 M4 => ?_
  refine sqStrs [rowS [h, x]] F8 M4 (wantedS rfl) (run_strs1 rfl (F8.ev 13 rfl)) rfl (by decide) fun v2 a9 w5 hsv2 hb5 F9 M5 => ?_
  refine sqC (v := (.agg (cells8 (keyedS (keyedS k [116, 97, 103]) (rowS [h, x]))))) F9 M5 (wantedS rfl) (run_call rfl Tryd.func54 (by kernel_rfl) rfl (mapE2 (F9.ev 9 rfl) (F9.ev 14 rfl))) rfl (by decide) (rkeyed1 (keyedS k [116, 97, 103]) (rowS [h, x]) _ w5 (keyedS_len _ _) hsv2 (by first | omega | decide | (simp; omega))) fun a10 w6 hb6 F10 M6 => ?_
  refine sqNew (cs := (cells8 (List.replicate 32 0))) (t := 73) F10 M6 (wantedS rfl) (run_alloc rfl (by kernel_rfl)) rfl (by decide) fun g3 a11 w7 hgg3 hb7 F11 M7 => ?_
  refine sqStore (i := 0) F11 M7 rfl rfl rfl (F11.ev 7 rfl) (F11.ev 15 rfl) rfl sz32d (szOf (keyedS_len _ _)) (szOf List.length_replicate) (cells8_one _) fun a12 w8 F12 M8 => ?_
  refine sn ?_
  clear F2 F3 F4 F5 F6 F7 F8 F9 F10 F11 M1 M2 M3 M4 M5 M6 M7
  refine wsl ?_
  refine sr (v := (.slice (some ⟨g3, 0, none⟩) 32 32)) F12 (run_slA rfl (F12.ev 7 rfl) (run_sliceArr_all (P := Tryd.prog) Tryd.underlying73 so8 g3 0 (by decide) _)) rfl rfl rfl fun a13 F13 => ?_
  refine sr (v := (.string ⟨(keyedS (keyedS k [116, 97, 103]) (rowS [h, x])).toArray⟩)) F13 (run_cv rfl (F13.ev 16 rfl) (run_strBlk (l := (keyedS (keyedS k [116, 97, 103]) (rowS [h, x]))) (keyedS_len _ _) (M8.at 0 rfl))) rfl rfl rfl fun a14 F14 => ?_
  refine asS F14 rfl rfl rfl rfl rfl fun a15 F15 => ?_
  refine sn ?_
  clear F12 F13 F14
  refine wp_ret ?_
  exact ret1 F15 rfl rfl ⟨rfl, M8.below⟩
set_option maxRecDepth 100000 in
set_option maxHeartbeats 1000000 in
theorem rseal_any (k nonce h d : List UInt8) (w : World) (hLk : k.length = 32) (hLnonce : nonce.length = 12) (hl : h.length + d.length < 2 ^ 30) :
    Calls Tryd.prog 67 #[.agg (cells8 k), .agg (cells8 nonce), .string ⟨h.toArray⟩, .string ⟨d.toArray⟩] w fun e w' => e = .returned (.string ⟨(sealS k nonce h d).toArray⟩) ∧ Below w.heap.size w w' := by
  have hxl := xorS_len (keyedS k [99, 105, 112, 104, 101, 114]) nonce 1 d
  have htl := tagS_len k h (nonce ++ xorS (keyedS k [99, 105, 112, 104, 101, 114]) nonce 1 d)
  refine walk_enter Tryd.func67 rfl rfl rfl fun a0 F0 => ?_
  have M0 := Mem.new w
  refine wsl ?_
  refine sqNew (cs := (cells8 k)) (t := 23) F0 M0 (wantedS rfl) (run_box rfl (F0.ev 0 rfl)) rfl (by decide) fun g0 a1 w1 hgg0 hb1 F1 M1 => ?_
  refine sqNew (cs := (cells8 nonce)) (t := 104) F1 M1 (wantedS rfl) (run_box rfl (F1.ev 1 rfl)) rfl (by decide) fun g1 a2 w2 hgg1 hb2 F2 M2 => ?_
  refine sr (v := (.string ⟨List.toArray []⟩)) F2 (run_as rfl rfl) rfl rfl rfl fun a3 F3 => ?_
  refine sn ?_
  clear F0 F1 F2 M0 M1
  refine wp_seq ?_
  obtain ⟨KL, hKL⟩ : ∃ KL, KL = [kval (.slice (some ⟨g1, 0, none⟩) 12 12), kval (.string ⟨nonce.toArray⟩), kval (.agg (cells8 k)), kval (.agg (cells8 (keyedS k [99, 105, 112, 104, 101, 114]))), kval (.agg (cells8 nonce)), kval (.string ⟨d.toArray⟩), kval (.string ⟨(xorS (keyedS k [99, 105, 112, 104, 101, 114]) nonce 1 d).toArray⟩), kval (.string ⟨(nonce ++ (xorS (keyedS k [99, 105, 112, 104, 101, 114]) nonce 1 d)).toArray⟩), kval (.string ⟨(nonce ++ (xorS (keyedS k [99, 105, 112, 104, 101, 114]) nonce 1 d)).toArray⟩)] := ⟨_, rfl⟩
  have K0 := getK hKL 0
  have K1 := getK hKL 1
  have K2 := getK hKL 2
  have K3 := getK hKL 3
  have K4 := getK hKL 4
  have K5 := getK hKL 5
  have K6 := getK hKL 6
  have K7 := getK hKL 7
  have K8 := getK hKL 8
  clear hKL
  refine wp_region_kd 24 (by kernel_rfl) (by kernel_rfl) (by kernel_rfl) F3.size KL ?_ ?_
  · refine ⟨?_, ?_, ?_, ?_, ?_, ?_, ?_, ?_, ?_, trivial⟩
    · exact asksY rfl fun a W hS hh hd => giv_run (run_slA rfl (eval_tmp (hh 5 _ rfl (F3.at 5 rfl))) (run_sliceArr_all (P := Tryd.prog) Tryd.underlying104 so8 g1 0 (by decide) _)) K0
    · exact asksY rfl fun a W hS hh hd => giv_run (run_cv rfl (eval_tmp (hd.vl 0 10 (by kernel_rfl) K0)) (run_strBlk (l := nonce) hLnonce ((M2.grow hS).at 0 rfl))) K1
    · exact asksY rfl fun a W hS hh hd => giv_run (run_ldB rfl (eval_tmp (hh 4 _ rfl (F3.at 4 rfl))) ((M2.grow hS).at 1 rfl) Tryd.underlying23 rfl sz32k (szOf hLk)) K2
    · exact asksY rfl fun a W hS hh hd => giv_call (run_call rfl Tryd.func80 (by kernel_rfl) rfl (mapE2 (eval_tmp (hd.vl 2 12 (by kernel_rfl) K2)) rfl)) (rof_any k [99, 105, 112, 104, 101, 114] W hLk (by first | omega | decide | (simp; omega))) K3
    · exact asksY rfl fun a W hS hh hd => giv_run (run_ldB rfl (eval_tmp (hh 5 _ rfl (F3.at 5 rfl))) ((M2.grow hS).at 0 rfl) Tryd.underlying104 rfl sz12q (szOf hLnonce)) K4
    · exact asksY rfl fun a W hS hh hd => giv_run (run_mv rfl (eval_tmp (hh 3 _ rfl (F3.at 3 rfl)))) K5
    · exact asksY rfl fun a W hS hh hd => giv_call (run_call rfl Tryd.func79 (by kernel_rfl) rfl (mapE4 (eval_tmp (hd.vl 3 13 (by kernel_rfl) K3)) (eval_tmp (hd.vl 4 14 (by kernel_rfl) K4)) rfl (eval_tmp (hd.vl 5 15 (by kernel_rfl) K5)))) (rxor1_any (keyedS k [99, 105, 112, 104, 101, 114]) nonce d W (keyedS_len _ _) hLnonce (by first | omega | decide | (simp; omega))) K6
    · exact asksY rfl fun a W hS hh hd => giv_run (run_cat rfl (eval_tmp (hd.vl 1 11 (by kernel_rfl) K1)) (eval_tmp (hd.vl 6 16 (by kernel_rfl) K6)) (by first | omega | decide | (simp; omega))) K7
    · exact asksY rfl fun a W hS hh hd => giv_run (run_as rfl (eval_tmp (hd.vl 7 17 (by kernel_rfl) K7))) K8
  · intro a4 w3 hb3 hK
    have e0 := hK.vl 0 10 (by kernel_rfl) K0
    have e1 := hK.vl 1 11 (by kernel_rfl) K1
    have e2 := hK.vl 2 12 (by kernel_rfl) K2
    have e3 := hK.vl 3 13 (by kernel_rfl) K3
    have e4 := hK.vl 4 14 (by kernel_rfl) K4
    have e5 := hK.vl 5 15 (by kernel_rfl) K5
    have e6 := hK.vl 6 16 (by kernel_rfl) K6
    have e7 := hK.vl 7 17 (by kernel_rfl) K7
    have e8 := hK.vl 8 9 (by kernel_rfl) K8
    have F4 : Fr a4 24 [(0, (.agg (cells8 k))), (1, (.agg (cells8 nonce))), (2, (.string ⟨h.toArray⟩)), (4, (.pointer (some ⟨g0, 0, none⟩))), (8, (.string ⟨List.toArray []⟩)), (9, (.string ⟨(nonce ++ (xorS (keyedS k [99, 105, 112, 104, 101, 114]) nonce 1 d)).toArray⟩))] := (hK.fr F3 [_, _, _, _, _, _, _, _, _] ⟨e0, e1, e2, e3, e4, e5, e6, e7, e8, trivial⟩).sub ⟨rfl, rfl, rfl, rfl, rfl, rfl, trivial⟩
    have M3 := M2.grow hb3
    clear hK K0 e0 K1 e1 K2 e2 K3 e3 K4 e4 K5 e5 K6 e6 K7 e7 K8 e8
    clear F3 M2
    refine nx ?_
    refine wsl ?_
    refine mvS F4 rfl rfl rfl rfl rfl fun a5 F5 => ?_
    refine sr F5 (run_ldB rfl (F5.ev 4 rfl) (M3.at 1 rfl) Tryd.underlying23 rfl sz32k (szOf hLk)) rfl rfl rfl fun a6 F6 => ?_
    refine mvS F6 rfl rfl rfl rfl rfl fun a7 F7 => ?_
    refine mvS F7 rfl rfl rfl rfl rfl fun a8 F8 => ?_
    refine sqC (v := (.string ⟨(tagS k h (nonce ++ (xorS (keyedS k [99, 105, 112, 104, 101, 114]) nonce 1 d))).toArray⟩)) F8 M3 (wantedS rfl) (run_call rfl Tryd.func78 (by kernel_rfl) rfl (mapE3 (F8.ev 19 rfl) (F8.ev 20 rfl) (F8.ev 21 rfl))) rfl (by decide) (rtag_any k h (nonce ++ (xorS (keyedS k [99, 105, 112, 104, 101, 114]) nonce 1 d)) w3 hLk (by first | omega | decide | (simp; omega))) fun a9 w4 hb4 F9 M4 => ?_
    refine sr (v := (.string ⟨(nonce ++ (xorS (keyedS k [99, 105, 112, 104, 101, 114]) nonce 1 d) ++ (tagS k h (nonce ++ (xorS (keyedS k [99, 105, 112, 104, 101, 114]) nonce 1 d)))).toArray⟩)) F9 (run_cat rfl (F9.ev 18 rfl) (F9.ev 22 rfl) (by first | omega | decide | (simp; omega))) rfl rfl rfl fun a10 F10 => ?_
    refine asS F10 rfl rfl rfl rfl rfl fun a11 F11 => ?_
    refine sn ?_
    clear F4 F5 F6 F7 F8 F9 F10 M3
    refine wp_ret ?_
    exact ret1 F11 rfl rfl ⟨rfl, M4.below⟩
end Go.Proofs.YtconhhhggckcbaaDoor
