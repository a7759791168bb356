/- The walk of seal.Seal. Printed by gen_seal3.py. -/
import Derived.Test.YtilbebjjmnncdaaDoorSealKeys
import Derived.Test.YtilbebjjmnncdaaDoorSealTag
import Derived.Test.YtilbebjjmnncdaaDoorSealNonce
namespace Go.Proofs.YtilbebjjmnncdaaDoor
open Go.RowKit

theorem xor1_any (k nonce : List UInt8) (data : List UInt8) (w : World) (hk : k.length = 32) (hn : nonce.length = 12) (hd : data.length < 2147483648) :
    Calls Tryd.prog 32 #[.agg (cells8 k), .agg (cells8 nonce), .int .u32 1, .string ⟨data.toArray⟩] w fun e w' =>
      e = .returned (.string ⟨(xorS k nonce 1 data).toArray⟩) ∧ Below w.heap.size w w' := xor_any k nonce 1 data w hk hn hd
attribute [local go_sem] str_app
set_option maxRecDepth 100000 in
set_option maxHeartbeats 1000000 in
theorem sseal_any (k nonce h d : List UInt8) (w : World) (hG : Glob w) (hk : k.length = 32) (hn : nonce.length = 12) (hl : h.length + d.length < 2 ^ 30) :
    Calls Tryd.prog 13 #[.agg (cells8 k), .agg (cells8 nonce), .string ⟨h.toArray⟩, .string ⟨d.toArray⟩] w fun e w' => e = .returned (.string ⟨(sealS k nonce h d).toArray⟩) ∧ Below w.heap.size w w' := by
  have HG := Lib.hid hG
  have HK := Lib.hid hk
  have HK8 : Hid ((cells8 k).size = 32) := Lib.hid (by rw [cells8_size]; exact hk)
  have HN := Lib.hid hn
  have HN8 : Hid ((cells8 nonce).size = 12) := Lib.hid (by rw [cells8_size]; exact hn)
  obtain ⟨D1, hD1⟩ : ∃ D1, keyedS k cipherT = D1 := ⟨_, rfl⟩
  obtain ⟨D2, hD2⟩ : ∃ D2, keyedS k tagT = D2 := ⟨_, rfl⟩
  have HD1 := Lib.hid hD1
  have HD2 := Lib.hid hD2
  have HD1L : Hid (D1.length = 32) := Lib.hid (by rw [← hD1, keyedS_len])
  have HD2L : Hid (D2.length = 32) := Lib.hid (by rw [← hD2, keyedS_len])
  have HD18 : Hid ((cells8 D1).size = 32) := Lib.hid (by rw [cells8_size, HD1L.out])
  have HD28 : Hid ((cells8 D2).size = 32) := Lib.hid (by rw [cells8_size, HD2L.out])
  have HZ : Hid ((cells8 (List.replicate 32 0)).size = 32) := Lib.hid (by rw [cells8_size, List.length_replicate])
  obtain ⟨X, hX⟩ : ∃ X, xorS D1 nonce 1 d = X := ⟨_, rfl⟩
  have hXL : X.length = d.length := by rw [← hX, xorS_len]
  have HX := Lib.hid hX
  have HXL := Lib.hid hXL
  have HRES : Hid (sealS k nonce h d = (nonce ++ X) ++ tagK D2 h (nonce ++ X)) := Lib.hid (by unfold sealS aheadS tagS tagK; rw [hD1, hD2, hX])
  clear hG hk hn hD1 hD2 hX hXL
  rw [HRES.out]
  clear HRES
  go_enter Tryd.func13, Tryd.ntmps13
  go_upto_region 1 with (fail)
  have hKB : Blk ((w.alloc (.cells (cells8 k) 23)).alloc (.cells (cells8 nonce) 24)) w.heap.size 23 (cells8 k) := (Blk.new _ _ _).alloc _
  have hNB : Blk ((w.alloc (.cells (cells8 k) 23)).alloc (.cells (cells8 nonce) 24)) (w.heap.size + 1) 24 (cells8 nonce) := Blk.newAt _ _ _ (by simp)
  have hb : Below w.heap.size w ((w.alloc (.cells (cells8 k) 23)).alloc (.cells (cells8 nonce) 24)) := ((Below.refl _ _).alloc (Nat.le_refl _) _).alloc (by simp) _
  generalize (w.alloc (.cells (cells8 k) 23)).alloc (.cells (cells8 nonce) 24) = w1 at *
  have HG1 := Lib.hid (HG.out.below hb)
  have HKB := Lib.hid hKB
  have HNB := Lib.hid hNB
  have HBW := Lib.hid hb
  clear hKB hNB hb HG
  go_wp2_with (refine wpList_loadB (cs := cells8 k) rfl 23 (.tmp 4) rfl w.heap.size rfl HKB.out Tryd.underlying23 rfl sz32k HK8.out ?_)
  refine (skeys_any k _ HG1.out HK.out).mono ?_
  rintro e w2 ⟨rfl, hb2⟩
  rw [HD1.out, HD2.out]
  have HB2 := Lib.hid hb2
  clear hb2
  go_upto_region 2 with (first | refine wpList_storeB rfl 23 (.tmp 9) (.tmp 15) rfl w2.heap.size (cells8 D1) rfl rfl (t := 23) (old := (cells8 (List.replicate 32 0))) ((Blk.new w2 23 (cells8 (List.replicate 32 0))).alloc (.cells (cells8 (List.replicate 32 0)) 23)) sz32k HD18.out HZ.out (cells8_one _) ?_ | refine wpList_storeB rfl 23 (.tmp 10) (.tmp 16) rfl (w2.heap.size + 1) (cells8 D2) rfl rfl (t := 23) (old := (cells8 (List.replicate 32 0))) ((Blk.newAt (w2.alloc (.cells (cells8 (List.replicate 32 0)) 23)) 23 (cells8 (List.replicate 32 0)) (by simp)).rowFar (by omega) _) sz32k HD28.out HZ.out (cells8_one _) ?_)
  change Code.wp _ _ _ _ ((((w2.alloc (.cells (cells8 (List.replicate 32 0)) 23)).alloc (.cells (cells8 (List.replicate 32 0)) 23)).setRow w2.heap.size (cells8 D1)).setRow (w2.heap.size + 1) (cells8 D2))
  have hC1 : Blk ((((w2.alloc (.cells (cells8 (List.replicate 32 0)) 23)).alloc (.cells (cells8 (List.replicate 32 0)) 23)).setRow w2.heap.size (cells8 D1)).setRow (w2.heap.size + 1) (cells8 D2)) w2.heap.size 23 (cells8 D1) := (((Blk.new w2 23 (cells8 (List.replicate 32 0))).alloc (.cells (cells8 (List.replicate 32 0)) 23)).row _).rowFar (by omega) _
  have hC2 : Blk ((((w2.alloc (.cells (cells8 (List.replicate 32 0)) 23)).alloc (.cells (cells8 (List.replicate 32 0)) 23)).setRow w2.heap.size (cells8 D1)).setRow (w2.heap.size + 1) (cells8 D2)) (w2.heap.size + 1) 23 (cells8 D2) := ((Blk.newAt (w2.alloc (.cells (cells8 (List.replicate 32 0)) 23)) 23 (cells8 (List.replicate 32 0)) (by simp)).rowFar (by omega) _).row _
  have hb3 : Below w1.heap.size w1 ((((w2.alloc (.cells (cells8 (List.replicate 32 0)) 23)).alloc (.cells (cells8 (List.replicate 32 0)) 23)).setRow w2.heap.size (cells8 D1)).setRow (w2.heap.size + 1) (cells8 D2)) := below_row (below_row ((HB2.out.alloc HB2.out.size _).alloc (by simp; have := HB2.out.size; omega) _) HB2.out.size _) (Nat.le_succ_of_le HB2.out.size) _
  generalize ((((w2.alloc (.cells (cells8 (List.replicate 32 0)) 23)).alloc (.cells (cells8 (List.replicate 32 0)) 23)).setRow w2.heap.size (cells8 D1)).setRow (w2.heap.size + 1) (cells8 D2)) = w3 at *
  clear HB2
  have hN3 := HNB.out.below hb3 HNB.out.lt
  have hsl := run_sliceArr_all (P := Tryd.prog) Tryd.underlying24 so8 (w.heap.size + 1) 0 (by decide)
  have hcat : ¬ 9223372036854775807 < nonce.length + X.length := by have := HN.out; have := HXL.out; omega
  obtain ⟨KL, hKL⟩ : ∃ KL, KL = [kval (.slice (some ⟨w.heap.size + 1, 0, none⟩) 12 12), kval (.string ⟨nonce.toArray⟩), kval (.agg (cells8 D1)), kval (.agg (cells8 nonce)), kval (.string ⟨d.toArray⟩), kval (.string ⟨X.toArray⟩), kval (.string ⟨(nonce ++ X).toArray⟩), kval (.string ⟨(nonce ++ X).toArray⟩)] := ⟨_, rfl⟩
  have K0 : KL.getD 0 kany = kval (.slice (some ⟨w.heap.size + 1, 0, none⟩) 12 12) := by rw [hKL]; rfl
  have K1 : KL.getD 1 kany = kval (.string ⟨nonce.toArray⟩) := by rw [hKL]; rfl
  have K2 : KL.getD 2 kany = kval (.agg (cells8 D1)) := by rw [hKL]; rfl
  have K3 : KL.getD 3 kany = kval (.agg (cells8 nonce)) := by rw [hKL]; rfl
  have K4 : KL.getD 4 kany = kval (.string ⟨d.toArray⟩) := by rw [hKL]; rfl
  have K5 : KL.getD 5 kany = kval (.string ⟨X.toArray⟩) := by rw [hKL]; rfl
  have K6 : KL.getD 6 kany = kval (.string ⟨(nonce ++ X).toArray⟩) := by rw [hKL]; rfl
  have K7 : KL.getD 7 kany = kval (.string ⟨(nonce ++ X).toArray⟩) := by rw [hKL]; rfl
  clear hKL
  refine wp_region_kd 30 (by kernel_rfl) (by kernel_rfl) (by kernel_rfl) rfl KL ?_ ?_
  · refine ⟨?_, ?_, ?_, ?_, ?_, ?_, ?_, ?_, trivial⟩
    · refine asks_mk fun a W hS hh hd => ⟨wanted_yes rfl, ?_⟩
      have e0 := hh 5 _ rfl rfl
      have E0 := eval_tmp e0
      refine giv_val (c := (.slice (some ⟨w.heap.size + 1, 0, none⟩) 12 12)) ?_ K0 rfl
      go_simp
    · refine asks_mk fun a W hS hh hd => ⟨wanted_yes rfl, ?_⟩
      have e0 := hd.val (j := 0) (s := 17) (by kernel_rfl) K0
      have E0 := eval_tmp e0
      have hcv := run_strBlk (cap := 12) HN.out (hN3.below hS hN3.lt)
      refine giv_val (c := (.string ⟨nonce.toArray⟩)) ?_ K1 rfl
      go_simp
    · refine asks_mk fun a W hS hh hd => ⟨wanted_yes rfl, ?_⟩
      have e0 := hh 9 _ rfl rfl
      have E0 := eval_tmp e0
      exact giv_loadB hS 23 (.tmp 9) rfl w2.heap.size E0 hC1 Tryd.underlying23 rfl sz32k HD18.out K2
    · refine asks_mk fun a W hS hh hd => ⟨wanted_yes rfl, ?_⟩
      have e0 := hh 5 _ rfl rfl
      have E0 := eval_tmp e0
      exact giv_loadB hS 24 (.tmp 5) rfl (w.heap.size + 1) E0 hN3 Tryd.underlying24 rfl sz12q HN8.out K3
    · refine asks_mk fun a W hS hh hd => ⟨wanted_yes rfl, ?_⟩
      have e0 := hh 3 _ rfl rfl
      have E0 := eval_tmp e0
      exact giv_move rfl E0 K4
    · refine asks_mk fun a W hS hh hd => ⟨wanted_yes rfl, ?_⟩
      have e0 := hd.val (j := 2) (s := 19) (by kernel_rfl) K2
      have E0 := eval_tmp e0
      have e1 := hd.val (j := 3) (s := 20) (by kernel_rfl) K3
      have E1 := eval_tmp e1
      have e3 := hd.val (j := 4) (s := 21) (by kernel_rfl) K4
      have E3 := eval_tmp e3
      refine giv_call (f := 32) (args := #[(.agg (cells8 D1)), (.agg (cells8 nonce)), (.int .u32 1), (.string ⟨d.toArray⟩)]) ?_ ?_ K5
      · go_simp
      · exact HX.out ▸ xor1_any D1 nonce d W HD1L.out HN.out (by omega)
    · refine asks_mk fun a W hS hh hd => ⟨wanted_yes rfl, ?_⟩
      have e0 := hd.val (j := 1) (s := 18) (by kernel_rfl) K1
      have E0 := eval_tmp e0
      have e1 := hd.val (j := 5) (s := 22) (by kernel_rfl) K5
      have E1 := eval_tmp e1
      refine giv_val (c := (.string ⟨(nonce ++ X).toArray⟩)) ?_ K6 rfl
      go_simp
    · refine asks_mk fun a W hS hh hd => ⟨wanted_yes rfl, ?_⟩
      have e0 := hd.val (j := 6) (s := 23) (by kernel_rfl) K6
      have E0 := eval_tmp e0
      exact giv_assign rfl E0 K7
  · intro a W hS hK
    have e0 := hK.val (i := 0) (s := 17) (by kernel_rfl) K0
    have e1 := hK.val (i := 1) (s := 18) (by kernel_rfl) K1
    have e2 := hK.val (i := 2) (s := 19) (by kernel_rfl) K2
    have e3 := hK.val (i := 3) (s := 20) (by kernel_rfl) K3
    have e4 := hK.val (i := 4) (s := 21) (by kernel_rfl) K4
    have e5 := hK.val (i := 5) (s := 22) (by kernel_rfl) K5
    have e6 := hK.val (i := 6) (s := 23) (by kernel_rfl) K6
    have e7 := hK.val (i := 7) (s := 11) (by kernel_rfl) K7
    have hfr := hK.frame [(.slice (some ⟨w.heap.size + 1, 0, none⟩) 12 12), (.string ⟨nonce.toArray⟩), (.agg (cells8 D1)), (.agg (cells8 nonce)), (.string ⟨d.toArray⟩), (.string ⟨X.toArray⟩), (.string ⟨(nonce ++ X).toArray⟩), (.string ⟨(nonce ++ X).toArray⟩)] ⟨e0, e1, e2, e3, e4, e5, e6, e7, trivial⟩
    have hC3 := hC2.below hS hC2.lt
    have hG4 := (HG1.out.below hb3).below hS
    have hb4 := HBW.out.trans ((hb3.trans (hS.mono hb3.size)).mono HBW.out.size)
    clear K0 e0 K1 e1 K2 e2 K3 e3 K4 e4 K5 e5 K6 e6 K7 e7 hK hS hC1 hC2 hb3 hN3 hsl hcat
    subst hfr
    simp only [putAll, Act.put, List.setIfInBounds_toArray, List.set_cons_succ, List.set_cons_zero]
    have HT := Lib.hid (stag_any D2 h (nonce ++ X) W hG4 HD2L.out (by rw [List.length_append]; have := HN.out; have := HXL.out; omega))
    have htl := tagK_len D2 h (nonce ++ X)
    have hal : (nonce ++ X).length = d.length + 12 := by rw [List.length_append]; have := HN.out; have := HXL.out; omega
    obtain ⟨A, hA⟩ : ∃ A, A = nonce ++ X := ⟨_, rfl⟩
    rw [← hA] at HT htl hal
    rw [← hA]
    obtain ⟨T, hT⟩ : ∃ T, T = tagK D2 h A := ⟨_, rfl⟩
    rw [← hT] at HT htl
    have HA := Lib.hid hA
    have HTE := Lib.hid hT
    clear hA hT
    go_wp2_with (refine wpList_loadB (cs := cells8 D2) rfl 23 (.tmp 10) rfl (w2.heap.size + 1) rfl hC3 Tryd.underlying23 rfl sz32k HD28.out ?_)
    refine HT.out.mono ?_
    rintro e w5 ⟨rfl, hb5⟩
    have hcat2 : ¬ 9223372036854775807 < A.length + T.length := by omega
    go_wp2_with fail
    go_ret
    exact ⟨by rw [← HA.out, ← HTE.out]; rfl, hb4.trans (hb5.mono hb4.size)⟩
end Go.Proofs.YtilbebjjmnncdaaDoor
