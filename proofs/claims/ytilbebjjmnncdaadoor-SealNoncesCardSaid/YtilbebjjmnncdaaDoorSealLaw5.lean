/- The walk of the law SealNonces. Printed by gen_slaw1.py. -/
import Derived.Test.YtilbebjjmnncdaaDoorSealAwake
import Derived.Test.YtilbebjjmnncdaaDoorSealRnonce
import Derived.Test.YtilbebjjmnncdaaDoorGive
namespace Go.Proofs.YtilbebjjmnncdaaDoor
open Go.RowKit

theorem eqSame12 (C : List UInt8) (hC : C.length = 12) (W : World) : (Op.equalIn 10000 24 (.agg (cells8 C)) (.agg (cells8 C))).run Tryd.prog W = .ok true W := by
  have h : (Op.equalIn 10000 24 (.agg (cells8 C)) (.agg (cells8 C))).run Tryd.prog W = .ok (C == C) W := run_equalIn_bytes (P := Tryd.prog) W 9998 24 5 12 Tryd.underlying24 Tryd.underlying5 so8 C C hC hC
  rw [h, beq_self_eq_true]
set_option maxRecDepth 100000 in
set_option maxHeartbeats 2000000 in
theorem lawNonces_any (k h d : List UInt8) (w : World) (hG : Glob w) (hk : k.length = 32) (hh : h.length ≤ maxLen) (hd : d.length ≤ maxLen) :
    Calls Tryd.prog 7 #[.agg (cells8 k), .string ⟨h.toArray⟩, .string ⟨d.toArray⟩] w fun e w' => e = .returned (.bool true) ∧ Below w.heap.size w w' := by
  have HG := Lib.hid hG
  have HK := Lib.hid hk
  have HK8 : Hid ((cells8 k).size = 32) := Lib.hid (by rw [cells8_size]; exact hk)
  clear hG hk
  unfold maxLen at hh hd
  go_enter Tryd.func7, Tryd.ntmps7
  go_upto_region 1 with (fail)
  have hB : Blk (w.alloc (.cells (cells8 k) 23)) w.heap.size 23 (cells8 k) := Blk.new _ _ _
  have hb : Below w.heap.size w (w.alloc (.cells (cells8 k) 23)) := (Below.refl _ _).alloc (Nat.le_refl _) _
  generalize w.alloc (.cells (cells8 k) 23) = w1 at *
  have HG1 := Lib.hid (HG.out.below hb)
  have HB := Lib.hid hB
  have HBW := Lib.hid hb
  clear hB hb HG
  by_cases hlong : h.length > 300 ∨ d.length > 300
  · have hcase : (300 : Int) < h.length ∨ ((¬ (300 : Int) < h.length) ∧ (300 : Int) < d.length) := by omega
    rcases hcase with h1 | ⟨h1, h2⟩
    all_goals go_wp2_with fail
    all_goals refine (awake_any _ HG1.out).mono ?_
    all_goals rintro e w2 ⟨rfl, hb2⟩
    all_goals go_wp2_with fail
    all_goals go_ret
    all_goals exact ⟨rfl, HBW.out.trans (hb2.mono HBW.out.size)⟩
  · have h1 : ¬ (300 : Int) < h.length := by omega
    have h2 : ¬ (300 : Int) < d.length := by omega
    obtain ⟨N, hN⟩ : ∃ N, nonceS h = N := ⟨_, rfl⟩
    have HNL : Hid (N.length = 12) := Lib.hid (by rw [← hN, nonceS_len])
    have HN8 : Hid ((cells8 N).size = 12) := Lib.hid (by rw [cells8_size, HNL.out])
    have HNE := Lib.hid hN
    have HZ : Hid ((cells8 (List.replicate 12 0)).size = 12) := Lib.hid (by rw [cells8_size, List.length_replicate])
    clear hN
    obtain ⟨S, hS⟩ : ∃ S, sealS k N h d = S := ⟨_, rfl⟩
    have HSE := Lib.hid hS
    have hSL : S.length = d.length + 44 := by rw [← hS, sealS_len _ _ _ _ HNL.out]
    have hST : S.take 12 = N := by rw [← hS]; unfold sealS aheadS; rw [List.append_assoc, ← HNL.out, List.take_left]
    have hS12 : (⟨S.toArray⟩ : ByteArray).extract 0 12 = ⟨N.toArray⟩ := by rw [str_front, hST]
    have hge : 12 ≤ S.length := by omega
    have hge' : (12 : Int) ≤ S.length := by omega
    clear hS hST hSL
    go_wp2_with fail
    refine (snonce_any h _).mono ?_
    rintro e w2 ⟨rfl, hb2⟩
    rw [HNE.out]
    have HB2 := Lib.hid hb2
    clear hb2
    go_upto_region 4 with (refine wpList_storeNew (c := cells8 (List.replicate 12 0)) rfl 24 (.tmp 7) (.tmp 19) rfl w2 w2.heap.size rfl rfl (cells8 N) rfl rfl sz12q HN8.out HZ.out (cells8_one _) ?_)
    have hN : Blk (w2.alloc (.cells (cells8 N) 24)) w2.heap.size 24 (cells8 N) := Blk.new _ _ _
    have hb3 := HB2.out.alloc HB2.out.size (.cells (cells8 N) 24)
    generalize w2.alloc (.cells (cells8 N) 24) = w3 at *
    have HN3 := Lib.hid hN
    have HKB := Lib.hid (HB.out.below hb3 HB.out.lt)
    have HB3 := Lib.hid (HBW.out.trans (hb3.mono HBW.out.size))
    have HG3 := Lib.hid (HG1.out.below hb3)
    clear HB2 hb3 hN
    simp only [Act.put]
    go_wp2_with (first | refine wpList_loadB (cs := cells8 k) rfl 23 (.tmp 3) rfl w.heap.size rfl HKB.out Tryd.underlying23 rfl sz32k HK8.out ?_ | refine wpList_loadB (cs := cells8 N) rfl 24 (.tmp 7) rfl w2.heap.size rfl HN3.out Tryd.underlying24 rfl sz12q HN8.out ?_)
    refine (sseal_any k N h d _ HG3.out HK.out HNL.out (by omega)).mono ?_
    rintro e w4 ⟨rfl, hb4⟩
    rw [HSE.out]
    have hN := HN3.out.below hb4 HN3.out.lt
    have HB4 := Lib.hid (HB3.out.trans (hb4.mono HB3.out.size))
    have HG4 := Lib.hid (HG3.out.below hb4)
    clear hb4
    have hsl := run_sliceArr_all (P := Tryd.prog) Tryd.underlying24 so8 w2.heap.size 0 (by decide)
    go_upto_region 5 with (fail)
    obtain ⟨KL, hKL⟩ : ∃ KL, KL = [kval (.agg (cells8 N)), kval (.string ⟨h.toArray⟩), kval (.agg (cells8 N)), kval (.bool true), kval (.bool true), kval (.string ⟨S.toArray⟩), kval (.int .i64 (S.length : Int)), kval (.bool true), kval (.bool true), kval (.bool true), kval (.string ⟨S.toArray⟩), kval (.string ⟨N.toArray⟩), kval (.slice (some ⟨w2.heap.size, 0, none⟩) 12 12), kval (.string ⟨N.toArray⟩), kval (.bool true), kval (.bool true), kval (.bool true), kval (.bool true), kval (.bool true), kval (.bool true)] := ⟨_, rfl⟩
    have K0 : KL.getD 0 kany = kval (.agg (cells8 N)) := by rw [hKL]; rfl
    have K1 : KL.getD 1 kany = kval (.string ⟨h.toArray⟩) := by rw [hKL]; rfl
    have K2 : KL.getD 2 kany = kval (.agg (cells8 N)) := by rw [hKL]; rfl
    have K3 : KL.getD 3 kany = kval (.bool true) := by rw [hKL]; rfl
    have K4 : KL.getD 4 kany = kval (.bool true) := by rw [hKL]; rfl
    have K5 : KL.getD 5 kany = kval (.string ⟨S.toArray⟩) := by rw [hKL]; rfl
    have K6 : KL.getD 6 kany = kval (.int .i64 (S.length : Int)) := by rw [hKL]; rfl
    have K7 : KL.getD 7 kany = kval (.bool true) := by rw [hKL]; rfl
    have K8 : KL.getD 8 kany = kval (.bool true) := by rw [hKL]; rfl
    have K9 : KL.getD 9 kany = kval (.bool true) := by rw [hKL]; rfl
    have K10 : KL.getD 10 kany = kval (.string ⟨S.toArray⟩) := by rw [hKL]; rfl
    have K11 : KL.getD 11 kany = kval (.string ⟨N.toArray⟩) := by rw [hKL]; rfl
    have K12 : KL.getD 12 kany = kval (.slice (some ⟨w2.heap.size, 0, none⟩) 12 12) := by rw [hKL]; rfl
    have K13 : KL.getD 13 kany = kval (.string ⟨N.toArray⟩) := by rw [hKL]; rfl
    have K14 : KL.getD 14 kany = kval (.bool true) := by rw [hKL]; rfl
    have K15 : KL.getD 15 kany = kval (.bool true) := by rw [hKL]; rfl
    have K16 : KL.getD 16 kany = kval (.bool true) := by rw [hKL]; rfl
    have K17 : KL.getD 17 kany = kval (.bool true) := by rw [hKL]; rfl
    have K18 : KL.getD 18 kany = kval (.bool true) := by rw [hKL]; rfl
    have K19 : KL.getD 19 kany = kval (.bool true) := by rw [hKL]; rfl
    clear hKL
    refine wp_region_kd 44 (by kernel_rfl) (by kernel_rfl) (by kernel_rfl) rfl KL ?_ ?_
    · refine ⟨?_, ?_, ?_, ?_, ?_, ?_, ?_, ?_, ?_, ?_, ?_, ?_, ?_, ?_, ?_, ?_, ?_, ?_, ?_, ?_, trivial⟩
      · refine asks_mk fun a W hS hh hd => ⟨wanted_yes rfl, ?_⟩
        have e0 := hh 7 _ rfl rfl
        have E0 := eval_tmp e0
        exact giv_loadB hS 24 (.tmp 7) rfl w2.heap.size E0 hN Tryd.underlying24 rfl sz12q HN8.out K0
      · refine asks_mk fun a W hS hh hd => ⟨wanted_yes rfl, ?_⟩
        have e0 := hh 1 _ rfl rfl
        have E0 := eval_tmp e0
        exact giv_move rfl E0 K1
      · refine asks_mk fun a W hS hh hd => ⟨wanted_yes rfl, ?_⟩
        have e0 := hd.val (j := 1) (s := 26) (by kernel_rfl) K1
        have E0 := eval_tmp e0
        refine giv_call (f := 18) (args := #[(.string ⟨h.toArray⟩)]) ?_ ?_ K2
        · go_simp
        · exact HNE.out ▸ rnonce_any h W (by unfold maxLen; omega)
      · refine asks_mk fun a W hS hh hd => ⟨wanted_yes rfl, ?_⟩
        have e0 := hd.val (j := 0) (s := 25) (by kernel_rfl) K0
        have E0 := eval_tmp e0
        have e1 := hd.val (j := 2) (s := 27) (by kernel_rfl) K2
        have E1 := eval_tmp e1
        exact giv_eql 24 24 (.tmp 25) (.tmp 27) rfl E0 E1 (by kernel_rfl) (eqSame12 N HNL.out) K3
      · refine asks_mk fun a W hS hh hd => ⟨wanted_yes rfl, ?_⟩
        have e0 := hd.val (j := 3) (s := 28) (by kernel_rfl) K3
        have E0 := eval_tmp e0
        exact giv_move rfl E0 K4
      · refine asks_mk fun a W hS hh hd => ⟨wanted_of (j := 4) (s := 29) (by kernel_rfl) (hd.val (j := 4) (s := 29) (by kernel_rfl) K4), ?_⟩
        have e0 := hh 8 _ rfl rfl
        have E0 := eval_tmp e0
        exact giv_move rfl E0 K5
      · refine asks_mk fun a W hS hh hd => ⟨wanted_of (j := 4) (s := 29) (by kernel_rfl) (hd.val (j := 4) (s := 29) (by kernel_rfl) K4), ?_⟩
        have e0 := hd.val (j := 5) (s := 30) (by kernel_rfl) K5
        have E0 := eval_tmp e0
        refine giv_val (c := (.int .i64 (S.length : Int))) ?_ K6 rfl
        go_simp
      · refine asks_mk fun a W hS hh hd => ⟨wanted_of (j := 4) (s := 29) (by kernel_rfl) (hd.val (j := 4) (s := 29) (by kernel_rfl) K4), ?_⟩
        have e0 := hd.val (j := 6) (s := 31) (by kernel_rfl) K6
        have E0 := eval_tmp e0
        refine giv_val (c := (.bool true)) ?_ K7 rfl
        go_simp
      · refine asks_mk fun a W hS hh hd => ⟨wanted_yes rfl, ?_⟩
        have e0 := hd.val (j := 4) (s := 29) (by kernel_rfl) K4
        have E0 := eval_tmp e0
        have e1 := hd.val (j := 7) (s := 32) (by kernel_rfl) K7
        have E1 := eval_tmp e1
        refine giv_val (c := (.bool true)) ?_ K8 rfl
        go_simp
      · refine asks_mk fun a W hS hh hd => ⟨wanted_yes rfl, ?_⟩
        have e0 := hd.val (j := 8) (s := 33) (by kernel_rfl) K8
        have E0 := eval_tmp e0
        exact giv_move rfl E0 K9
      · refine asks_mk fun a W hS hh hd => ⟨wanted_of (j := 9) (s := 34) (by kernel_rfl) (hd.val (j := 9) (s := 34) (by kernel_rfl) K9), ?_⟩
        have e0 := hh 8 _ rfl rfl
        have E0 := eval_tmp e0
        exact giv_move rfl E0 K10
      · refine asks_mk fun a W hS hh hd => ⟨wanted_of (j := 9) (s := 34) (by kernel_rfl) (hd.val (j := 9) (s := 34) (by kernel_rfl) K9), ?_⟩
        have e0 := hd.val (j := 10) (s := 35) (by kernel_rfl) K10
        have E0 := eval_tmp e0
        refine giv_val (c := (.string ⟨N.toArray⟩)) ?_ K11 rfl
        go_simp
      · refine asks_mk fun a W hS hh hd => ⟨wanted_of (j := 9) (s := 34) (by kernel_rfl) (hd.val (j := 9) (s := 34) (by kernel_rfl) K9), ?_⟩
        have e0 := hh 7 _ rfl rfl
        have E0 := eval_tmp e0
        refine giv_val (c := (.slice (some ⟨w2.heap.size, 0, none⟩) 12 12)) ?_ K12 rfl
        go_simp
      · refine asks_mk fun a W hS hh hd => ⟨wanted_of (j := 9) (s := 34) (by kernel_rfl) (hd.val (j := 9) (s := 34) (by kernel_rfl) K9), ?_⟩
        have e0 := hd.val (j := 12) (s := 37) (by kernel_rfl) K12
        have E0 := eval_tmp e0
        have hcv := run_strBlk (cap := 12) HNL.out (hN.below hS hN.lt)
        refine giv_val (c := (.string ⟨N.toArray⟩)) ?_ K13 rfl
        go_simp
      · refine asks_mk fun a W hS hh hd => ⟨wanted_of (j := 9) (s := 34) (by kernel_rfl) (hd.val (j := 9) (s := 34) (by kernel_rfl) K9), ?_⟩
        have e0 := hd.val (j := 11) (s := 36) (by kernel_rfl) K11
        have E0 := eval_tmp e0
        have e1 := hd.val (j := 13) (s := 38) (by kernel_rfl) K13
        have E1 := eval_tmp e1
        refine giv_val (c := (.bool true)) ?_ K14 rfl
        go_simp
      · refine asks_mk fun a W hS hh hd => ⟨wanted_yes rfl, ?_⟩
        have e0 := hd.val (j := 9) (s := 34) (by kernel_rfl) K9
        have E0 := eval_tmp e0
        have e1 := hd.val (j := 14) (s := 39) (by kernel_rfl) K14
        have E1 := eval_tmp e1
        refine giv_val (c := (.bool true)) ?_ K15 rfl
        go_simp
      · refine asks_mk fun a W hS hh hd => ⟨wanted_yes rfl, ?_⟩
        have e0 := hd.val (j := 15) (s := 40) (by kernel_rfl) K15
        have E0 := eval_tmp e0
        exact giv_move rfl E0 K16
      · refine asks_mk fun a W hS hh hd => ⟨wanted_of (j := 16) (s := 41) (by kernel_rfl) (hd.val (j := 16) (s := 41) (by kernel_rfl) K16), ?_⟩
        refine giv_call (f := 12) (args := #[]) ?_ ?_ K17
        · go_simp
        · exact awake_any W (HG4.out.below hS)
      · refine asks_mk fun a W hS hh hd => ⟨wanted_yes rfl, ?_⟩
        have e0 := hd.val (j := 16) (s := 41) (by kernel_rfl) K16
        have E0 := eval_tmp e0
        have e1 := hd.val (j := 17) (s := 42) (by kernel_rfl) K17
        have E1 := eval_tmp e1
        refine giv_val (c := (.bool true)) ?_ K18 rfl
        go_simp
      · refine asks_mk fun a W hS hh hd => ⟨wanted_yes rfl, ?_⟩
        have e0 := hd.val (j := 18) (s := 43) (by kernel_rfl) K18
        have E0 := eval_tmp e0
        exact giv_assign rfl E0 K19
    · intro a W hS hK
      have e := hK.val (i := 19) (s := 6) (by kernel_rfl) K19
      have hdf := hK.defers
      clear K0 K1 K2 K3 K4 K5 K6 K7 K8 K9 K10 K11 K12 K13 K14 K15 K16 K17 K18 K19 hK
      go_wp2
      exact bodyPost_ret (results_tmp rfl a.tmps _ W) hdf ⟨by simp [e], HB4.out.trans (hS.mono HB4.out.size)⟩
end Go.Proofs.YtilbebjjmnncdaaDoor
