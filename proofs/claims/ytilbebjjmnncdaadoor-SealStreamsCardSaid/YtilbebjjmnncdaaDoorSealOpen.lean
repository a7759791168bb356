/- The walk of seal.Open. Printed by gen_seal4.py. -/
import Derived.Test.YtilbebjjmnncdaaDoorSealSeal
namespace Go.Proofs.YtilbebjjmnncdaaDoor
open Go.RowKit

/-- what opening a box answers: the text and the error's number. -/
def openS (k h x : List UInt8) : List UInt8 × Int :=
  if x.length < 44 then ([], 4) else
  if tagS k h (x.take (x.length - 32)) = x.drop (x.length - 32) then (xorS (keyedS k cipherT) (nonceS (x.take (x.length - 32))) 1 ((x.take (x.length - 32)).drop 12), 0) else ([], 5)
theorem str_front (s : List UInt8) (n : Nat) : (⟨s.toArray⟩ : ByteArray).extract 0 n = ⟨(s.take n).toArray⟩ := by
  rw [str_mid]; simp
theorem ba_ne {a b : List UInt8} (h : a ≠ b) : (⟨a.toArray⟩ : ByteArray) ≠ ⟨b.toArray⟩ := fun e => h (by injection e with e; injection e)
set_option maxRecDepth 100000 in
set_option maxHeartbeats 1000000 in
theorem sopen_any (k h x : List UInt8) (w : World) (hG : Glob w) (hk : k.length = 32) (hl : h.length + x.length < 2 ^ 30) :
    Calls Tryd.prog 14 #[.agg (cells8 k), .string ⟨h.toArray⟩, .string ⟨x.toArray⟩] w fun e w' => e = .returned (.tuple #[.string ⟨(openS k h x).1.toArray⟩, .int .i64 (openS k h x).2]) ∧ Below w.heap.size w w' := by
  have HG := Lib.hid hG
  have HK := Lib.hid hk
  have HK8 : Hid ((cells8 k).size = 32) := Lib.hid (by rw [cells8_size]; exact hk)
  obtain ⟨D1, hD1⟩ : ∃ D1, keyedS k cipherT = D1 := ⟨_, rfl⟩
  obtain ⟨D2, hD2⟩ : ∃ D2, keyedS k tagT = D2 := ⟨_, rfl⟩
  have HD1 := Lib.hid hD1
  have HD2 := Lib.hid hD2
  have HD1L : Hid (D1.length = 32) := Lib.hid (by rw [← hD1, keyedS_len])
  have HD2L : Hid (D2.length = 32) := Lib.hid (by rw [← hD2, keyedS_len])
  have HD18 : Hid ((cells8 D1).size = 32) := Lib.hid (by rw [cells8_size, HD1L.out])
  have HD28 : Hid ((cells8 D2).size = 32) := Lib.hid (by rw [cells8_size, HD2L.out])
  have HZ : Hid ((cells8 (List.replicate 32 0)).size = 32) := Lib.hid (by rw [cells8_size, List.length_replicate])
  clear hG hk
  obtain ⟨r, hr⟩ : ∃ r, openS k h x = r := ⟨_, rfl⟩
  rw [hr]
  unfold openS tagS at hr
  rw [hD1, hD2] at hr
  clear hD1 hD2
  go_enter Tryd.func14, Tryd.ntmps14
  go_upto_region 1 with (fail)
  have hKB : Blk (w.alloc (.cells (cells8 k) 23)) w.heap.size 23 (cells8 k) := Blk.new _ _ _
  have hb : Below w.heap.size w (w.alloc (.cells (cells8 k) 23)) := (Below.refl _ _).alloc (Nat.le_refl _) _
  generalize w.alloc (.cells (cells8 k) 23) = w1 at *
  have HG1 := Lib.hid (HG.out.below hb)
  have HKB := Lib.hid hKB
  have HBW := Lib.hid hb
  clear hKB hb HG
  by_cases hsh : x.length < 44
  · rw [if_pos hsh] at hr
    have hsh' : (x.length : Int) < 44 := by omega
    subst hr
    go_wp2_with fail
    go_ret2
    exact ⟨rfl, HBW.out⟩
  · rw [if_neg hsh] at hr
    have hsh' : ¬ (x.length : Int) < 44 := by omega
    have hsx : ((x.length : Int) - 32).toNat = x.length - 32 := by omega
    have HSX := Lib.hid hsx
    have hA1 : (⟨x.toArray⟩ : ByteArray).extract 0 ((x.length : Int) - 32).toNat = ⟨(x.take (x.length - 32)).toArray⟩ := by rw [hsx, str_front]
    clear hsx
    have hAL : (x.take (x.length - 32)).length = x.length - 32 := by rw [List.length_take]; omega
    obtain ⟨A, hA⟩ : ∃ A, x.take (x.length - 32) = A := ⟨_, rfl⟩
    rw [hA] at hr hA1 hAL
    obtain ⟨E, hE⟩ : ∃ E, x.drop (x.length - 32) = E := ⟨_, rfl⟩
    rw [hE] at hr
    have hE1 : (⟨x.toArray⟩ : ByteArray).extract (x.length - 32) x.length = ⟨E.toArray⟩ := by rw [str_drop, hE]
    obtain ⟨T, hT⟩ : ∃ T, keyedS D2 (rowS [h, A]) = T := ⟨_, rfl⟩
    rw [hT] at hr
    have HT : Hid (tagK D2 h A = T) := Lib.hid hT
    have HR := Lib.hid hr
    have HAL := Lib.hid hAL
    have HE1 := Lib.hid hE1
    clear hA hE hT hr hAL hE1
    go_wp2_with (refine wpList_loadB (cs := cells8 k) rfl 23 (.tmp 3) rfl w.heap.size rfl HKB.out Tryd.underlying23 rfl sz32k HK8.out ?_)
    refine (skeys_any k _ HG1.out HK.out).mono ?_
    rintro e w2 ⟨rfl, hb2⟩
    rw [HD1.out, HD2.out]
    have HB2 := Lib.hid hb2
    clear hb2
    go_upto_region 4 with (first | refine wpList_storeB rfl 23 (.tmp 8) (.tmp 17) rfl w2.heap.size (cells8 D1) rfl rfl (t := 23) (old := (cells8 (List.replicate 32 0))) ((Blk.new w2 23 (cells8 (List.replicate 32 0))).alloc (.cells (cells8 (List.replicate 32 0)) 23)) sz32k HD18.out HZ.out (cells8_one _) ?_ | refine wpList_storeB rfl 23 (.tmp 9) (.tmp 18) rfl (w2.heap.size + 1) (cells8 D2) rfl rfl (t := 23) (old := (cells8 (List.replicate 32 0))) ((Blk.newAt (w2.alloc (.cells (cells8 (List.replicate 32 0)) 23)) 23 (cells8 (List.replicate 32 0)) (by simp)).rowFar (by omega) _) sz32k HD28.out HZ.out (cells8_one _) ?_)
    change Code.wp _ _ _ _ ((((w2.alloc (.cells (cells8 (List.replicate 32 0)) 23)).alloc (.cells (cells8 (List.replicate 32 0)) 23)).setRow w2.heap.size (cells8 D1)).setRow (w2.heap.size + 1) (cells8 D2))
    have hC1 : Blk ((((w2.alloc (.cells (cells8 (List.replicate 32 0)) 23)).alloc (.cells (cells8 (List.replicate 32 0)) 23)).setRow w2.heap.size (cells8 D1)).setRow (w2.heap.size + 1) (cells8 D2)) w2.heap.size 23 (cells8 D1) := (((Blk.new w2 23 (cells8 (List.replicate 32 0))).alloc (.cells (cells8 (List.replicate 32 0)) 23)).row _).rowFar (by omega) _
    have hC2 : Blk ((((w2.alloc (.cells (cells8 (List.replicate 32 0)) 23)).alloc (.cells (cells8 (List.replicate 32 0)) 23)).setRow w2.heap.size (cells8 D1)).setRow (w2.heap.size + 1) (cells8 D2)) (w2.heap.size + 1) 23 (cells8 D2) := ((Blk.newAt (w2.alloc (.cells (cells8 (List.replicate 32 0)) 23)) 23 (cells8 (List.replicate 32 0)) (by simp)).rowFar (by omega) _).row _
    have hb3 : Below w1.heap.size w1 ((((w2.alloc (.cells (cells8 (List.replicate 32 0)) 23)).alloc (.cells (cells8 (List.replicate 32 0)) 23)).setRow w2.heap.size (cells8 D1)).setRow (w2.heap.size + 1) (cells8 D2)) := below_row (below_row ((HB2.out.alloc HB2.out.size _).alloc (by simp; have := HB2.out.size; omega) _) HB2.out.size _) (Nat.le_succ_of_le HB2.out.size) _
    generalize ((((w2.alloc (.cells (cells8 (List.replicate 32 0)) 23)).alloc (.cells (cells8 (List.replicate 32 0)) 23)).setRow w2.heap.size (cells8 D1)).setRow (w2.heap.size + 1) (cells8 D2)) = w3 at *
    clear HB2
    have HG3 := Lib.hid (HG1.out.below hb3)
    have HB3 := Lib.hid (HBW.out.trans (hb3.mono HBW.out.size))
    have HLA : Hid (h.length + A.length < 2 ^ 42) := Lib.hid (by have := HAL.out; omega)
    clear hb3
    go_upto_region 5 with (fail)
    have hE2 : (⟨x.toArray⟩ : ByteArray).extract A.length x.length = ⟨E.toArray⟩ := by rw [HAL.out]; exact HE1.out
    have hAle : A.length ≤ x.length := by have := HAL.out; omega
    clear hA1 hsh'
    by_cases hTE : T = E
    · rw [if_pos hTE] at HR
      subst hTE
      obtain ⟨KL, hKL⟩ : ∃ KL, KL = [kval (.agg (cells8 D2)), kval (.string ⟨h.toArray⟩), kval (.string ⟨A.toArray⟩), kval (.string ⟨T.toArray⟩), kval (.string ⟨x.toArray⟩), kval (.string ⟨A.toArray⟩), kval (.int .i64 (A.length : Int)), kval (.string ⟨T.toArray⟩), kval (.bool false)] := ⟨_, rfl⟩
      have K0 : KL.getD 0 kany = kval (.agg (cells8 D2)) := by rw [hKL]; rfl
      have K1 : KL.getD 1 kany = kval (.string ⟨h.toArray⟩) := by rw [hKL]; rfl
      have K2 : KL.getD 2 kany = kval (.string ⟨A.toArray⟩) := by rw [hKL]; rfl
      have K3 : KL.getD 3 kany = kval (.string ⟨T.toArray⟩) := by rw [hKL]; rfl
      have K4 : KL.getD 4 kany = kval (.string ⟨x.toArray⟩) := by rw [hKL]; rfl
      have K5 : KL.getD 5 kany = kval (.string ⟨A.toArray⟩) := by rw [hKL]; rfl
      have K6 : KL.getD 6 kany = kval (.int .i64 (A.length : Int)) := by rw [hKL]; rfl
      have K7 : KL.getD 7 kany = kval (.string ⟨T.toArray⟩) := by rw [hKL]; rfl
      have K8 : KL.getD 8 kany = kval (.bool false) := by rw [hKL]; rfl
      clear hKL
      refine wp_region_kd 39 (by kernel_rfl) (by kernel_rfl) (by kernel_rfl) rfl KL ?_ ?_
      · refine ⟨?_, ?_, ?_, ?_, ?_, ?_, ?_, ?_, ?_, trivial⟩
        · refine asks_mk fun a W hS hh hd => ⟨wanted_yes rfl, ?_⟩
          have e0 := hh 9 _ rfl rfl
          have E0 := eval_tmp e0
          exact giv_loadB hS 23 (.tmp 9) rfl (w2.heap.size + 1) E0 hC2 Tryd.underlying23 rfl sz32k HD28.out K0
        · refine asks_mk fun a W hS hh hd => ⟨wanted_yes rfl, ?_⟩
          have e0 := hh 1 _ rfl rfl
          have E0 := eval_tmp e0
          exact giv_move rfl E0 K1
        · refine asks_mk fun a W hS hh hd => ⟨wanted_yes rfl, ?_⟩
          have e0 := hh 10 _ rfl rfl
          have E0 := eval_tmp e0
          exact giv_move rfl E0 K2
        · refine asks_mk fun a W hS hh hd => ⟨wanted_yes rfl, ?_⟩
          have e0 := hd.val (j := 0) (s := 24) (by kernel_rfl) K0
          have E0 := eval_tmp e0
          have e1 := hd.val (j := 1) (s := 25) (by kernel_rfl) K1
          have E1 := eval_tmp e1
          have e2 := hd.val (j := 2) (s := 26) (by kernel_rfl) K2
          have E2 := eval_tmp e2
          refine giv_call (f := 33) (args := #[(.agg (cells8 D2)), (.string ⟨h.toArray⟩), (.string ⟨A.toArray⟩)]) ?_ ?_ K3
          · go_simp
          · exact HT.out ▸ stag_any D2 h A W (HG3.out.below hS) HD2L.out HLA.out
        · refine asks_mk fun a W hS hh hd => ⟨wanted_yes rfl, ?_⟩
          have e0 := hh 2 _ rfl rfl
          have E0 := eval_tmp e0
          exact giv_move rfl E0 K4
        · refine asks_mk fun a W hS hh hd => ⟨wanted_yes rfl, ?_⟩
          have e0 := hh 10 _ rfl rfl
          have E0 := eval_tmp e0
          exact giv_move rfl E0 K5
        · refine asks_mk fun a W hS hh hd => ⟨wanted_yes rfl, ?_⟩
          have e0 := hd.val (j := 5) (s := 29) (by kernel_rfl) K5
          have E0 := eval_tmp e0
          refine giv_val (c := (.int .i64 (A.length : Int))) ?_ K6 rfl
          go_simp
        · refine asks_mk fun a W hS hh hd => ⟨wanted_yes rfl, ?_⟩
          have e0 := hd.val (j := 4) (s := 28) (by kernel_rfl) K4
          have E0 := eval_tmp e0
          have e1 := hd.val (j := 6) (s := 30) (by kernel_rfl) K6
          have E1 := eval_tmp e1
          refine giv_val (c := (.string ⟨T.toArray⟩)) ?_ K7 rfl
          go_simp
        · refine asks_mk fun a W hS hh hd => ⟨wanted_yes rfl, ?_⟩
          have e0 := hd.val (j := 3) (s := 27) (by kernel_rfl) K3
          have E0 := eval_tmp e0
          have e1 := hd.val (j := 7) (s := 31) (by kernel_rfl) K7
          have E1 := eval_tmp e1
          refine giv_val (c := (.bool false)) ?_ K8 rfl
          go_simp
      · intro a W hS hK
        have e0 := hK.val (i := 0) (s := 24) (by kernel_rfl) K0
        have e1 := hK.val (i := 1) (s := 25) (by kernel_rfl) K1
        have e2 := hK.val (i := 2) (s := 26) (by kernel_rfl) K2
        have e3 := hK.val (i := 3) (s := 27) (by kernel_rfl) K3
        have e4 := hK.val (i := 4) (s := 28) (by kernel_rfl) K4
        have e5 := hK.val (i := 5) (s := 29) (by kernel_rfl) K5
        have e6 := hK.val (i := 6) (s := 30) (by kernel_rfl) K6
        have e7 := hK.val (i := 7) (s := 31) (by kernel_rfl) K7
        have e8 := hK.val (i := 8) (s := 32) (by kernel_rfl) K8
        have hfr := hK.frame [(.agg (cells8 D2)), (.string ⟨h.toArray⟩), (.string ⟨A.toArray⟩), (.string ⟨T.toArray⟩), (.string ⟨x.toArray⟩), (.string ⟨A.toArray⟩), (.int .i64 (A.length : Int)), (.string ⟨T.toArray⟩), (.bool false)] ⟨e0, e1, e2, e3, e4, e5, e6, e7, e8, trivial⟩
        clear K0 e0 K1 e1 K2 e2 K3 e3 K4 e4 K5 e5 K6 e6 K7 e7 K8 e8 hK
        subst hfr
        simp only [putAll, Act.put, List.setIfInBounds_toArray, List.set_cons_succ, List.set_cons_zero]
        have hC3 := hC1.below hS hC1.lt
        have HB4 := Lib.hid (HB3.out.trans (hS.mono HB3.out.size))
        clear hC1 hC2 hS hE2
        generalize W = w4 at *
        obtain ⟨N, hN⟩ : ∃ N, nonceS A = N := ⟨_, rfl⟩
        obtain ⟨B, hB⟩ : ∃ B, A.drop 12 = B := ⟨_, rfl⟩
        obtain ⟨Y, hY⟩ : ∃ Y, xorS D1 N 1 B = Y := ⟨_, rfl⟩
        have HNL : Hid (N.length = 12) := Lib.hid (by rw [← hN, nonceS_len])
        have HLB : Hid (B.length < 2147483648) := Lib.hid (by rw [← hB, List.length_drop]; omega)
        have hr := HR.out
        rw [hN, hB, hY] at hr
        have hB1 : (⟨A.toArray⟩ : ByteArray).extract 12 A.length = ⟨B.toArray⟩ := by rw [str_drop, hB]
        have hA12 : 12 ≤ A.length := by have := HAL.out; omega
        have hA12' : (12 : Int) ≤ A.length := by omega
        have HNE := Lib.hid hN
        have HY := Lib.hid hY
        subst hr
        clear hN hB hY HR
        go_upto_region 7 with (fail)
        obtain ⟨KL, hKL⟩ : ∃ KL, KL = [kval (.agg (cells8 D1)), kval (.string ⟨A.toArray⟩), kval (.agg (cells8 N)), kval (.string ⟨A.toArray⟩), kval (.string ⟨B.toArray⟩), kval (.string ⟨Y.toArray⟩), kval (.string ⟨Y.toArray⟩), kval (.int .i64 0)] := ⟨_, rfl⟩
        have K0 : KL.getD 0 kany = kval (.agg (cells8 D1)) := by rw [hKL]; rfl
        have K1 : KL.getD 1 kany = kval (.string ⟨A.toArray⟩) := by rw [hKL]; rfl
        have K2 : KL.getD 2 kany = kval (.agg (cells8 N)) := by rw [hKL]; rfl
        have K3 : KL.getD 3 kany = kval (.string ⟨A.toArray⟩) := by rw [hKL]; rfl
        have K4 : KL.getD 4 kany = kval (.string ⟨B.toArray⟩) := by rw [hKL]; rfl
        have K5 : KL.getD 5 kany = kval (.string ⟨Y.toArray⟩) := by rw [hKL]; rfl
        have K6 : KL.getD 6 kany = kval (.string ⟨Y.toArray⟩) := by rw [hKL]; rfl
        have K7 : KL.getD 7 kany = kval (.int .i64 0) := by rw [hKL]; rfl
        clear hKL
        refine wp_region_kd 39 (by kernel_rfl) (by kernel_rfl) (by kernel_rfl) rfl KL ?_ ?_
        · refine ⟨?_, ?_, ?_, ?_, ?_, ?_, ?_, ?_, trivial⟩
          · refine asks_mk fun a W hS hh hd => ⟨wanted_yes rfl, ?_⟩
            have e0 := hh 8 _ rfl rfl
            have E0 := eval_tmp e0
            exact giv_loadB hS 23 (.tmp 8) rfl w2.heap.size E0 hC3 Tryd.underlying23 rfl sz32k HD18.out K0
          · refine asks_mk fun a W hS hh hd => ⟨wanted_yes rfl, ?_⟩
            have e0 := hh 10 _ rfl rfl
            have E0 := eval_tmp e0
            exact giv_move rfl E0 K1
          · refine asks_mk fun a W hS hh hd => ⟨wanted_yes rfl, ?_⟩
            have e0 := hd.val (j := 1) (s := 34) (by kernel_rfl) K1
            have E0 := eval_tmp e0
            refine giv_call (f := 17) (args := #[(.string ⟨A.toArray⟩)]) ?_ ?_ K2
            · go_simp
            · exact HNE.out ▸ snonce_any A W
          · refine asks_mk fun a W hS hh hd => ⟨wanted_yes rfl, ?_⟩
            have e0 := hh 10 _ rfl rfl
            have E0 := eval_tmp e0
            exact giv_move rfl E0 K3
          · refine asks_mk fun a W hS hh hd => ⟨wanted_yes rfl, ?_⟩
            have e0 := hd.val (j := 3) (s := 36) (by kernel_rfl) K3
            have E0 := eval_tmp e0
            refine giv_val (c := (.string ⟨B.toArray⟩)) ?_ K4 rfl
            go_simp
          · refine asks_mk fun a W hS hh hd => ⟨wanted_yes rfl, ?_⟩
            have e0 := hd.val (j := 0) (s := 33) (by kernel_rfl) K0
            have E0 := eval_tmp e0
            have e1 := hd.val (j := 2) (s := 35) (by kernel_rfl) K2
            have E1 := eval_tmp e1
            have e3 := hd.val (j := 4) (s := 37) (by kernel_rfl) K4
            have E3 := eval_tmp e3
            refine giv_call (f := 32) (args := #[(.agg (cells8 D1)), (.agg (cells8 N)), (.int .u32 1), (.string ⟨B.toArray⟩)]) ?_ ?_ K5
            · go_simp
            · exact HY.out ▸ xor1_any D1 N B W HD1L.out HNL.out HLB.out
          · refine asks_mk fun a W hS hh hd => ⟨wanted_yes rfl, ?_⟩
            have e0 := hd.val (j := 5) (s := 38) (by kernel_rfl) K5
            have E0 := eval_tmp e0
            exact giv_assign rfl E0 K6
          · refine asks_mk fun a W hS hh hd => ⟨wanted_yes rfl, ?_⟩
            exact giv_assign rfl rfl K7
        · intro a W hS hK
          have e0 := hK.val (i := 0) (s := 33) (by kernel_rfl) K0
          have e1 := hK.val (i := 1) (s := 34) (by kernel_rfl) K1
          have e2 := hK.val (i := 2) (s := 35) (by kernel_rfl) K2
          have e3 := hK.val (i := 3) (s := 36) (by kernel_rfl) K3
          have e4 := hK.val (i := 4) (s := 37) (by kernel_rfl) K4
          have e5 := hK.val (i := 5) (s := 38) (by kernel_rfl) K5
          have e6 := hK.val (i := 6) (s := 6) (by kernel_rfl) K6
          have e7 := hK.val (i := 7) (s := 7) (by kernel_rfl) K7
          have hfr := hK.frame [(.agg (cells8 D1)), (.string ⟨A.toArray⟩), (.agg (cells8 N)), (.string ⟨A.toArray⟩), (.string ⟨B.toArray⟩), (.string ⟨Y.toArray⟩), (.string ⟨Y.toArray⟩), (.int .i64 0)] ⟨e0, e1, e2, e3, e4, e5, e6, e7, trivial⟩
          clear K0 e0 K1 e1 K2 e2 K3 e3 K4 e4 K5 e5 K6 e6 K7 e7 hK
          subst hfr
          simp only [putAll, Act.put, List.setIfInBounds_toArray, List.set_cons_succ, List.set_cons_zero]
          go_wp2_with fail
          go_ret2
          exact ⟨rfl, HB4.out.trans (hS.mono HB4.out.size)⟩
    · rw [if_neg hTE] at HR
      have hTE' := ba_ne hTE
      have hr := HR.out
      subst hr
      clear HR
      obtain ⟨KL, hKL⟩ : ∃ KL, KL = [kval (.agg (cells8 D2)), kval (.string ⟨h.toArray⟩), kval (.string ⟨A.toArray⟩), kval (.string ⟨T.toArray⟩), kval (.string ⟨x.toArray⟩), kval (.string ⟨A.toArray⟩), kval (.int .i64 (A.length : Int)), kval (.string ⟨E.toArray⟩), kval (.bool true)] := ⟨_, rfl⟩
      have K0 : KL.getD 0 kany = kval (.agg (cells8 D2)) := by rw [hKL]; rfl
      have K1 : KL.getD 1 kany = kval (.string ⟨h.toArray⟩) := by rw [hKL]; rfl
      have K2 : KL.getD 2 kany = kval (.string ⟨A.toArray⟩) := by rw [hKL]; rfl
      have K3 : KL.getD 3 kany = kval (.string ⟨T.toArray⟩) := by rw [hKL]; rfl
      have K4 : KL.getD 4 kany = kval (.string ⟨x.toArray⟩) := by rw [hKL]; rfl
      have K5 : KL.getD 5 kany = kval (.string ⟨A.toArray⟩) := by rw [hKL]; rfl
      have K6 : KL.getD 6 kany = kval (.int .i64 (A.length : Int)) := by rw [hKL]; rfl
      have K7 : KL.getD 7 kany = kval (.string ⟨E.toArray⟩) := by rw [hKL]; rfl
      have K8 : KL.getD 8 kany = kval (.bool true) := by rw [hKL]; rfl
      clear hKL
      refine wp_region_kd 39 (by kernel_rfl) (by kernel_rfl) (by kernel_rfl) rfl KL ?_ ?_
      · refine ⟨?_, ?_, ?_, ?_, ?_, ?_, ?_, ?_, ?_, trivial⟩
        · refine asks_mk fun a W hS hh hd => ⟨wanted_yes rfl, ?_⟩
          have e0 := hh 9 _ rfl rfl
          have E0 := eval_tmp e0
          exact giv_loadB hS 23 (.tmp 9) rfl (w2.heap.size + 1) E0 hC2 Tryd.underlying23 rfl sz32k HD28.out K0
        · refine asks_mk fun a W hS hh hd => ⟨wanted_yes rfl, ?_⟩
          have e0 := hh 1 _ rfl rfl
          have E0 := eval_tmp e0
          exact giv_move rfl E0 K1
        · refine asks_mk fun a W hS hh hd => ⟨wanted_yes rfl, ?_⟩
          have e0 := hh 10 _ rfl rfl
          have E0 := eval_tmp e0
          exact giv_move rfl E0 K2
        · refine asks_mk fun a W hS hh hd => ⟨wanted_yes rfl, ?_⟩
          have e0 := hd.val (j := 0) (s := 24) (by kernel_rfl) K0
          have E0 := eval_tmp e0
          have e1 := hd.val (j := 1) (s := 25) (by kernel_rfl) K1
          have E1 := eval_tmp e1
          have e2 := hd.val (j := 2) (s := 26) (by kernel_rfl) K2
          have E2 := eval_tmp e2
          refine giv_call (f := 33) (args := #[(.agg (cells8 D2)), (.string ⟨h.toArray⟩), (.string ⟨A.toArray⟩)]) ?_ ?_ K3
          · go_simp
          · exact HT.out ▸ stag_any D2 h A W (HG3.out.below hS) HD2L.out HLA.out
        · refine asks_mk fun a W hS hh hd => ⟨wanted_yes rfl, ?_⟩
          have e0 := hh 2 _ rfl rfl
          have E0 := eval_tmp e0
          exact giv_move rfl E0 K4
        · refine asks_mk fun a W hS hh hd => ⟨wanted_yes rfl, ?_⟩
          have e0 := hh 10 _ rfl rfl
          have E0 := eval_tmp e0
          exact giv_move rfl E0 K5
        · refine asks_mk fun a W hS hh hd => ⟨wanted_yes rfl, ?_⟩
          have e0 := hd.val (j := 5) (s := 29) (by kernel_rfl) K5
          have E0 := eval_tmp e0
          refine giv_val (c := (.int .i64 (A.length : Int))) ?_ K6 rfl
          go_simp
        · refine asks_mk fun a W hS hh hd => ⟨wanted_yes rfl, ?_⟩
          have e0 := hd.val (j := 4) (s := 28) (by kernel_rfl) K4
          have E0 := eval_tmp e0
          have e1 := hd.val (j := 6) (s := 30) (by kernel_rfl) K6
          have E1 := eval_tmp e1
          refine giv_val (c := (.string ⟨E.toArray⟩)) ?_ K7 rfl
          go_simp
        · refine asks_mk fun a W hS hh hd => ⟨wanted_yes rfl, ?_⟩
          have e0 := hd.val (j := 3) (s := 27) (by kernel_rfl) K3
          have E0 := eval_tmp e0
          have e1 := hd.val (j := 7) (s := 31) (by kernel_rfl) K7
          have E1 := eval_tmp e1
          refine giv_val (c := (.bool true)) ?_ K8 rfl
          go_simp
      · intro a W hS hK
        have e0 := hK.val (i := 0) (s := 24) (by kernel_rfl) K0
        have e1 := hK.val (i := 1) (s := 25) (by kernel_rfl) K1
        have e2 := hK.val (i := 2) (s := 26) (by kernel_rfl) K2
        have e3 := hK.val (i := 3) (s := 27) (by kernel_rfl) K3
        have e4 := hK.val (i := 4) (s := 28) (by kernel_rfl) K4
        have e5 := hK.val (i := 5) (s := 29) (by kernel_rfl) K5
        have e6 := hK.val (i := 6) (s := 30) (by kernel_rfl) K6
        have e7 := hK.val (i := 7) (s := 31) (by kernel_rfl) K7
        have e8 := hK.val (i := 8) (s := 32) (by kernel_rfl) K8
        have hfr := hK.frame [(.agg (cells8 D2)), (.string ⟨h.toArray⟩), (.string ⟨A.toArray⟩), (.string ⟨T.toArray⟩), (.string ⟨x.toArray⟩), (.string ⟨A.toArray⟩), (.int .i64 (A.length : Int)), (.string ⟨E.toArray⟩), (.bool true)] ⟨e0, e1, e2, e3, e4, e5, e6, e7, e8, trivial⟩
        clear K0 e0 K1 e1 K2 e2 K3 e3 K4 e4 K5 e5 K6 e6 K7 e7 K8 e8 hK
        subst hfr
        simp only [putAll, Act.put, List.setIfInBounds_toArray, List.set_cons_succ, List.set_cons_zero]
        have HB4 := Lib.hid (HB3.out.trans (hS.mono HB3.out.size))
        clear hC1 hC2 hS hE2
        go_wp2_with fail
        go_ret2
        exact ⟨rfl, HB4.out⟩
end Go.Proofs.YtilbebjjmnncdaaDoor
