/- The walk of the law SealTags. Printed by gen_slaw2.py. -/
import Derived.Test.YtilbebjjmnncdaaDoorSealAwake
namespace Go.Proofs.YtilbebjjmnncdaaDoor
open Go.RowKit

set_option maxRecDepth 100000 in
set_option maxHeartbeats 400000 in
theorem lawTags_any (k nonce h d : List UInt8) (w : World) (hG : Glob w) (hk : k.length = 32) (hn : nonce.length = 12) (hh : h.length ≤ maxLen) (hd : d.length ≤ maxLen) :
    Calls Tryd.prog 8 #[.agg (cells8 k), .agg (cells8 nonce), .string ⟨h.toArray⟩, .string ⟨d.toArray⟩] w fun e w' => e = .returned (.bool true) ∧ Below w.heap.size w w' := by
  have HG := Lib.hid hG
  have HK := Lib.hid hk
  have HN := Lib.hid hn
  have HK8 : Hid ((cells8 k).size = 32) := Lib.hid (by rw [cells8_size]; exact hk)
  have HN8 : Hid ((cells8 nonce).size = 12) := Lib.hid (by rw [cells8_size]; exact hn)
  clear hG hk hn
  unfold maxLen at hh hd
  go_enter Tryd.func8, Tryd.ntmps8
  go_upto_region 1 with (fail)
  have hKB : Blk ((w.alloc (.cells (cells8 k) 23)).alloc (.cells (cells8 nonce) 24)) w.heap.size 23 (cells8 k) := (Blk.new _ _ _).alloc _
  have hNB : Blk ((w.alloc (.cells (cells8 k) 23)).alloc (.cells (cells8 nonce) 24)) (w.heap.size + 1) 24 (cells8 nonce) := Blk.newAt _ _ _ (by simp)
  have hb : Below w.heap.size w ((w.alloc (.cells (cells8 k) 23)).alloc (.cells (cells8 nonce) 24)) := ((Below.refl _ _).alloc (Nat.le_refl _) _).alloc (by simp) _
  generalize (w.alloc (.cells (cells8 k) 23)).alloc (.cells (cells8 nonce) 24) = w1 at *
  have HG1 := Lib.hid (HG.out.below hb)
  have HKB := Lib.hid hKB
  have HNB := Lib.hid hNB
  have HBW := Lib.hid hb
  clear hKB hNB hb HG
  by_cases hlong : h.length > 300 ∨ d.length > 300
  · have hcase : (300 : Int) < h.length ∨ ((¬ (300 : Int) < h.length) ∧ (300 : Int) < d.length) := by omega
    rcases hcase with h1 | ⟨h1, h2⟩
    all_goals go_wp2_with fail
    all_goals refine (awake_any _ HG1.out).mono ?_
    all_goals rintro e w2 ⟨rfl, hb2⟩
    all_goals go_wp2_with fail
    all_goals go_ret
    all_goals exact ⟨rfl, HBW.out.trans (hb2.mono HBW.out.size)⟩
  · have h1 : ¬ (300 : Int) < h.length := by omega
    have h2 : ¬ (300 : Int) < d.length := by omega
    have HSS := Lib.hid (sseal_any k nonce h d w1 HG1.out HK.out HN.out (by omega))
    have hAL := aheadS_len k nonce d HN.out
    have hSL := sealS_len k nonce h d HN.out
    have hS0 : sealS k nonce h d = aheadS k nonce d ++ tagS k h (aheadS k nonce d) := rfl
    have hTT : tagS k h (aheadS k nonce d) = keyedS (keyedS k tagT) (rowS [h, aheadS k nonce d]) := rfl
    have hTL := tagS_len k h (aheadS k nonce d)
    generalize sealS k nonce h d = S at *
    generalize tagS k h (aheadS k nonce d) = T at *
    generalize aheadS k nonce d = A at *
    obtain ⟨D2, hD2⟩ : ∃ D2, keyedS k [tagT].flatten = D2 := ⟨_, rfl⟩
    have HD2L : Hid (D2.length = 32) := Lib.hid (by rw [← hD2, keyedS_len])
    obtain ⟨R, hR⟩ : ∃ R, rowS [h, A] = R := ⟨_, rfl⟩
    have hRL := rowS_len [h, A]
    have HRL : Hid ([R].flatten.length < 2 ^ 60) := Lib.hid (by rw [← hR]; simp at hRL ⊢; omega)
    have HTT : Hid (keyedS D2 [R].flatten = T) := Lib.hid (by rw [hTT, ← hD2, ← hR]; simp)
    have HTL := Lib.hid hTL
    have HT8 : Hid ((cells8 T).size = 32) := Lib.hid (by rw [cells8_size]; exact hTL)
    have HZ : Hid ((cells8 (List.replicate 32 0)).size = 32) := Lib.hid (by rw [cells8_size, List.length_replicate])
    have hsx : ((S.length : Int) - 32).toNat = A.length := by omega
    have hA1 : (⟨S.toArray⟩ : ByteArray).extract 0 ((S.length : Int) - 32).toNat = ⟨A.toArray⟩ := by rw [hsx, str_front, hS0, List.take_left]
    have hT1 : (⟨S.toArray⟩ : ByteArray).extract ((S.length : Int) - 32).toNat S.length = ⟨T.toArray⟩ := by rw [hsx, str_drop, hS0, List.drop_left]
    have hge : (44 : Int) ≤ S.length := by omega
    have hgn : 44 ≤ S.length := by omega
    have hmx : (S.length : Int) ≤ 400 := by omega
    have HAL : Hid (h.length + A.length < 2 ^ 40) := Lib.hid (by omega)
    have HD2 := Lib.hid hD2
    have HR := Lib.hid hR
    clear hsx hS0 hTT hTL hSL hAL hRL hD2 hR
    go_wp2_with (first | refine wpList_loadB (cs := cells8 k) rfl 23 (.tmp 4) rfl w.heap.size rfl HKB.out Tryd.underlying23 rfl sz32k HK8.out ?_ | refine wpList_loadB (cs := cells8 nonce) rfl 24 (.tmp 5) rfl (w.heap.size + 1) rfl HNB.out Tryd.underlying24 rfl sz12q HN8.out ?_)
    refine HSS.out.mono ?_
    rintro e w2 ⟨rfl, hb2⟩
    have HB2 := Lib.hid (HBW.out.trans (hb2.mono HBW.out.size))
    have HG2 := Lib.hid (HG1.out.below hb2)
    have HK2 := Lib.hid (HKB.out.below hb2 HKB.out.lt)
    clear hb2 HSS HKB HNB
    have HT1 := Lib.hid hT1
    have HLG := Lib.hid (And.intro hge (And.intro hgn hmx))
    clear hT1 hgn hmx hge
    have HDC : Hid (decide ((S.length : Int) < 44) = false) := Lib.hid (decide_eq_false (by have := HLG.out.1; omega))
    go_upto_if 28 with (fail)
    rw [HDC.out]
    have hge := HLG.out.1
    have hgn := HLG.out.2.1
    have hmx := HLG.out.2.2
    have hmn : S.length < 2 ^ 30 := by omega
    clear hh hd hlong h1 h2
    go_upto_region 7 with (fail)
    clear hge hgn hA1 hmx hmn
    go_wp2_with (refine wpList_loadB (cs := cells8 k) rfl 23 (.tmp 4) rfl w.heap.size rfl HK2.out Tryd.underlying23 rfl sz32k HK8.out ?_)
    have hS3 := Strs.new w2 [tagT] 9 1 #[.string { data := #[116, 97, 103] }] rfl
    refine (keyed_any k [tagT] _ _ HK.out (HG2.out.alloc _) hS3 (by decide) (by decide)).mono ?_
    rintro e w3 ⟨rfl, hb3⟩
    rw [HD2.out]
    have hb3' := HB2.out.trans (((Below.refl w2.heap.size w2).alloc (Nat.le_refl _) _ |>.trans (hb3.mono (by simp))).mono HB2.out.size)
    have HB3 := Lib.hid hb3'
    have HG3 := Lib.hid ((HG2.out.alloc _).below hb3)
    clear hb3 hb3' hS3
    go_wp2_with fail
    have hS4 := Strs.new w3 [h, A] 9 2 #[.string { data := h.toArray }, .string { data := A.toArray }] rfl
    refine (nrow_any [h, A] _ _ hS4 (by have := HAL.out; simp; omega) (by simp)).mono ?_
    rintro e w4 ⟨rfl, hb4⟩
    rw [HR.out]
    have hb4' := HB3.out.trans (((Below.refl w3.heap.size w3).alloc (Nat.le_refl _) _ |>.trans (hb4.mono (by simp))).mono HB3.out.size)
    have HB4 := Lib.hid hb4'
    have HG4 := Lib.hid ((HG3.out.alloc _).below hb4)
    clear hb4 hb4' hS4
    go_wp2_with fail
    have hS5 := Strs.new w4 [R] 9 1 #[.string { data := R.toArray }] rfl
    refine (keyed_any D2 [R] _ _ HD2L.out (HG4.out.alloc _) hS5 HRL.out (by simp)).mono ?_
    rintro e w5 ⟨rfl, hb5⟩
    rw [HTT.out]
    have hb5' := HB4.out.trans (((Below.refl w4.heap.size w4).alloc (Nat.le_refl _) _ |>.trans (hb5.mono (by simp))).mono HB4.out.size)
    have HB5 := Lib.hid hb5'
    have HG5 := Lib.hid ((HG4.out.alloc _).below hb5)
    clear hb5 hb5' hS5
    go_upto_region 8 with (refine wpList_storeNew (c := cells8 (List.replicate 32 0)) rfl 37 (.tmp 11) (.tmp 42) rfl w5 w5.heap.size rfl rfl (cells8 T) rfl rfl sz32d HT8.out HZ.out (cells8_one _) ?_)
    have hT7 : Blk (w5.alloc (.cells (cells8 T) 37)) w5.heap.size 37 (cells8 T) := Blk.new _ _ _
    have HB7 := Lib.hid (HB5.out.alloc HB5.out.size (.cells (cells8 T) 37))
    have HG7 := Lib.hid (HG5.out.alloc (.cells (cells8 T) 37))
    generalize w5.alloc (.cells (cells8 T) 37) = w7 at *
    generalize w5.heap.size = g at *
    simp only [Act.put]
    have hT1 := HT1.out
    obtain ⟨hge0, hgn, hmx⟩ := HLG.out
    have hwr : IntKind.i64.wrap ((S.length : Int) - 32) = (S.length : Int) - 32 := by rw [IntKind.wrap_i64]; omega
    have hnn : 0 ≤ (S.length : Int) - 32 := by omega
    have hle : (S.length : Int) - 32 ≤ S.length := by omega
    have hle2 : ((S.length : Int) - 32).toNat ≤ S.length := by omega
    have hsl := run_sliceArr_all (P := Tryd.prog) Tryd.underlying37 so8 g 0 (by decide)
    obtain ⟨KL, hKL⟩ : ∃ KL, KL = [kval (.string ⟨S.toArray⟩), kval (.string ⟨S.toArray⟩), kval (.int .i64 (S.length : Int)), kval (.int .i64 ((S.length : Int) - 32)), kval (.string ⟨T.toArray⟩), kval (.slice (some ⟨g, 0, none⟩) 32 32), kval (.string ⟨T.toArray⟩), kval (.bool true), kval (.bool true), kval (.bool true), kval (.bool true), kval (.bool true)] := ⟨_, rfl⟩
    have K0 : KL.getD 0 kany = kval (.string ⟨S.toArray⟩) := by rw [hKL]; rfl
    have K1 : KL.getD 1 kany = kval (.string ⟨S.toArray⟩) := by rw [hKL]; rfl
    have K2 : KL.getD 2 kany = kval (.int .i64 (S.length : Int)) := by rw [hKL]; rfl
    have K3 : KL.getD 3 kany = kval (.int .i64 ((S.length : Int) - 32)) := by rw [hKL]; rfl
    have K4 : KL.getD 4 kany = kval (.string ⟨T.toArray⟩) := by rw [hKL]; rfl
    have K5 : KL.getD 5 kany = kval (.slice (some ⟨g, 0, none⟩) 32 32) := by rw [hKL]; rfl
    have K6 : KL.getD 6 kany = kval (.string ⟨T.toArray⟩) := by rw [hKL]; rfl
    have K7 : KL.getD 7 kany = kval (.bool true) := by rw [hKL]; rfl
    have K8 : KL.getD 8 kany = kval (.bool true) := by rw [hKL]; rfl
    have K9 : KL.getD 9 kany = kval (.bool true) := by rw [hKL]; rfl
    have K10 : KL.getD 10 kany = kval (.bool true) := by rw [hKL]; rfl
    have K11 : KL.getD 11 kany = kval (.bool true) := by rw [hKL]; rfl
    clear hKL
    refine wp_region_kd 54 (by kernel_rfl) (by kernel_rfl) (by kernel_rfl) rfl KL ?_ ?_
    · refine ⟨?_, ?_, ?_, ?_, ?_, ?_, ?_, ?_, ?_, ?_, ?_, ?_, trivial⟩
      · refine asks_mk fun a W hS hh hd => ⟨wanted_yes rfl, ?_⟩
        have e0 := hh 9 _ rfl rfl
        have E0 := eval_tmp e0
        exact giv_move rfl E0 K0
      · refine asks_mk fun a W hS hh hd => ⟨wanted_yes rfl, ?_⟩
        have e0 := hh 9 _ rfl rfl
        have E0 := eval_tmp e0
        exact giv_move rfl E0 K1
      · refine asks_mk fun a W hS hh hd => ⟨wanted_yes rfl, ?_⟩
        have e0 := hd.val (j := 1) (s := 44) (by kernel_rfl) K1
        have E0 := eval_tmp e0
        refine giv_val (c := (.int .i64 (S.length : Int))) ?_ K2 rfl
        go_simp
      · refine asks_mk fun a W hS hh hd => ⟨wanted_yes rfl, ?_⟩
        have e0 := hd.val (j := 2) (s := 45) (by kernel_rfl) K2
        have E0 := eval_tmp e0
        refine giv_val (c := (.int .i64 ((S.length : Int) - 32))) ?_ K3 rfl
        go_simp
      · refine asks_mk fun a W hS hh hd => ⟨wanted_yes rfl, ?_⟩
        have e0 := hd.val (j := 0) (s := 43) (by kernel_rfl) K0
        have E0 := eval_tmp e0
        have e1 := hd.val (j := 3) (s := 46) (by kernel_rfl) K3
        have E1 := eval_tmp e1
        refine giv_val (c := (.string ⟨T.toArray⟩)) ?_ K4 rfl
        go_simp
        intro hx
        exact absurd hx (by omega)
      · refine asks_mk fun a W hS hh hd => ⟨wanted_yes rfl, ?_⟩
        have e0 := hh 11 _ rfl rfl
        have E0 := eval_tmp e0
        refine giv_val (c := (.slice (some ⟨g, 0, none⟩) 32 32)) ?_ K5 rfl
        go_simp
      · refine asks_mk fun a W hS hh hd => ⟨wanted_yes rfl, ?_⟩
        have e0 := hd.val (j := 5) (s := 48) (by kernel_rfl) K5
        have E0 := eval_tmp e0
        have hcv := run_strBlk (cap := 32) HTL.out (hT7.below hS hT7.lt)
        refine giv_val (c := (.string ⟨T.toArray⟩)) ?_ K6 rfl
        go_simp
      · refine asks_mk fun a W hS hh hd => ⟨wanted_yes rfl, ?_⟩
        have e0 := hd.val (j := 4) (s := 47) (by kernel_rfl) K4
        have E0 := eval_tmp e0
        have e1 := hd.val (j := 6) (s := 49) (by kernel_rfl) K6
        have E1 := eval_tmp e1
        refine giv_val (c := (.bool true)) ?_ K7 rfl
        go_simp
      · refine asks_mk fun a W hS hh hd => ⟨wanted_yes rfl, ?_⟩
        have e0 := hd.val (j := 7) (s := 50) (by kernel_rfl) K7
        have E0 := eval_tmp e0
        exact giv_move rfl E0 K8
      · refine asks_mk fun a W hS hh hd => ⟨wanted_of (j := 8) (s := 51) (by kernel_rfl) (hd.val (j := 8) (s := 51) (by kernel_rfl) K8), ?_⟩
        refine giv_call (f := 12) (args := #[]) ?_ ?_ K9
        · go_simp
        · exact awake_any W (HG7.out.below hS)
      · refine asks_mk fun a W hS hh hd => ⟨wanted_yes rfl, ?_⟩
        have e0 := hd.val (j := 8) (s := 51) (by kernel_rfl) K8
        have E0 := eval_tmp e0
        have e1 := hd.val (j := 9) (s := 52) (by kernel_rfl) K9
        have E1 := eval_tmp e1
        refine giv_val (c := (.bool true)) ?_ K10 rfl
        go_simp
      · refine asks_mk fun a W hS hh hd => ⟨wanted_yes rfl, ?_⟩
        have e0 := hd.val (j := 10) (s := 53) (by kernel_rfl) K10
        have E0 := eval_tmp e0
        exact giv_assign rfl E0 K11
    · intro a W hS hK
      have e := hK.val (i := 11) (s := 8) (by kernel_rfl) K11
      have hdf := hK.defers
      clear K0 K1 K2 K3 K4 K5 K6 K7 K8 K9 K10 K11 hK
      go_wp2
      exact bodyPost_ret (results_tmp rfl a.tmps _ W) hdf ⟨by simp [e], HB7.out.trans (hS.mono HB7.out.size)⟩
end Go.Proofs.YtilbebjjmnncdaaDoor
