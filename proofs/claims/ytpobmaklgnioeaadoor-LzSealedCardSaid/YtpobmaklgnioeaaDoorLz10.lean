/- The walk of the law LzSealed. Printed by gen_lz10.py. -/
import Derived.Test.YtpobmaklgnioeaaDoorLzA
import Derived.Test.YtpobmaklgnioeaaDoorOpenSeal
namespace Go.Proofs.YtpobmaklgnioeaaDoor
open Go.RowKit

attribute [local simp] xorS_len tagS_len keyedS_len nonceS_len
set_option maxRecDepth 100000 in
set_option maxHeartbeats 1000000 in
theorem lawZSealed_any (k s : List UInt8) (w : World) (HG : Glob w) (hLk : k.length = 32) (_hm : s.length ≤ maxLen) : Calls Tryd.prog 11 #[.agg (cells8 k), .string ⟨s.toArray⟩] w fun e w' => e = .returned (.bool true) ∧ Below w.heap.size w w' := by
  by_cases h : 600 < s.length
  · skip
    refine walk_enter Tryd.func11 rfl rfl rfl fun a0 hF0 => ?_
    have hM0 := Mem.new w
    refine wp_seq ?_
    refine wp_region_lit ?_
    refine sqNew (cs := (cells8 k)) (t := 24) hF0 hM0 (wantedS rfl) (run_box rfl (hF0.ev 0 rfl)) rfl (by decide) fun g0 a1 w1 hgg0 hb1 hF1 hM1 => ?_
    refine sq (v := (.bool false)) hF1 (wantedS rfl) (run_as rfl rfl) rfl (by decide) fun a2 hF2 => ?_
    refine sqEnd ?_
    clear hF0 hF1 hM0
    refine nx ?_
    refine wp_seq ?_
    refine wp_seq ?_
    refine wp_region_lit ?_
    refine sq (v := (.string ⟨s.toArray⟩)) hF2 (wantedS rfl) (run_mv rfl (hF2.ev 1 rfl)) rfl (by decide) fun a3 hF3 => ?_
    refine sq (v := (.int .i64 (s.length : Int))) hF3 (wantedS rfl) (run_len rfl (hF3.ev 9 rfl) rfl Tryd.underlying9) rfl (by decide) fun a4 hF4 => ?_
    refine sq (v := (.bool true)) hF4 (wantedS rfl) (run_gtr rfl (hF4.ev 10 rfl) rfl (decide_eq_true (by omega))) rfl (by decide) fun a5 hF5 => ?_
    refine sqEnd ?_
    clear hF2 hF3 hF4
    refine nx ?_
    refine wp_cond_true (hF5.ev 11 rfl) ?_
    refine wp_seq ?_
    refine wp_region_lit ?_
    refine sqC (v := (.bool true)) hF5 hM1 (wantedS rfl) (run_call rfl Tryd.func28 (by kernel_rfl) rfl (mapE0 )) rfl (by decide) (zawake_any w1) fun a6 w2 hb2 hF6 hM2 => ?_
    refine sq (v := (.bool true)) hF6 (wantedS rfl) (run_as rfl (hF6.ev 12 rfl)) rfl (by decide) fun a7 hF7 => ?_
    refine sqEnd ?_
    clear hF5 hF6 hM1
    refine nx ?_
    refine wp_ret ?_
    refine nxRet ?_
    exact ret1 hF7 rfl rfl ⟨rfl, hM2.below⟩
  · have hpk := pack_len s
    obtain ⟨X, hX⟩ : ∃ X, sealS k (nonceS s) [108, 122] (packS s) = X := ⟨_, rfl⟩
    have hO1 : openS k [108, 122] X = (packS s, 0) := by rw [← hX]; exact openS_seal _ _ _ _ (nonceS_len _)
    have hXl : X.length ≤ 2000 := by rw [← hX, sealS_len _ _ _ _ (nonceS_len _)]; omega
    refine walk_enter Tryd.func11 rfl rfl rfl fun a0 hF0 => ?_
    have hM0 := Mem.new w
    refine wp_seq ?_
    refine wp_region_lit ?_
    refine sqNew (cs := (cells8 k)) (t := 24) hF0 hM0 (wantedS rfl) (run_box rfl (hF0.ev 0 rfl)) rfl (by decide) fun g0 a1 w1 hgg0 hb1 hF1 hM1 => ?_
    refine sq (v := (.bool false)) hF1 (wantedS rfl) (run_as rfl rfl) rfl (by decide) fun a2 hF2 => ?_
    refine sqEnd ?_
    clear hF0 hF1 hM0
    refine nx ?_
    refine wp_seq ?_
    refine wp_seq ?_
    refine wp_region_lit ?_
    refine sq (v := (.string ⟨s.toArray⟩)) hF2 (wantedS rfl) (run_mv rfl (hF2.ev 1 rfl)) rfl (by decide) fun a3 hF3 => ?_
    refine sq (v := (.int .i64 (s.length : Int))) hF3 (wantedS rfl) (run_len rfl (hF3.ev 9 rfl) rfl Tryd.underlying9) rfl (by decide) fun a4 hF4 => ?_
    refine sq (v := (.bool false)) hF4 (wantedS rfl) (run_gtr rfl (hF4.ev 10 rfl) rfl (decide_eq_false (by omega))) rfl (by decide) fun a5 hF5 => ?_
    refine sqEnd ?_
    clear hF2 hF3 hF4
    refine nx ?_
    refine wp_cond_false (hF5.ev 11 rfl) ?_
    refine wp_skip ?_
    refine nx ?_
    refine wp_seq ?_
    obtain ⟨KL, hKL⟩ : ∃ KL, KL = [kval (.agg (cells8 k)), kval (.agg (cells8 k)), kval (.string ⟨s.toArray⟩), kval (.agg (cells8 (nonceS s))), kval (.string ⟨s.toArray⟩), kval (.string ⟨(packS s).toArray⟩), kval (.string ⟨X.toArray⟩), kval (.tuple #[(.string ⟨(packS s).toArray⟩), (.int .i64 0)]), kval (.tuple #[(.string ⟨(packS s).toArray⟩), (.int .i64 0)]), kval (.string ⟨(packS s).toArray⟩), kval (.int .i64 0), kval (.string ⟨(packS s).toArray⟩), kval (.int .i64 0)] := ⟨_, rfl⟩
    have K0 : KL.getD 0 kany = kval (.agg (cells8 k)) := by rw [hKL]; rfl
    have K1 : KL.getD 1 kany = kval (.agg (cells8 k)) := by rw [hKL]; rfl
    have K2 : KL.getD 2 kany = kval (.string ⟨s.toArray⟩) := by rw [hKL]; rfl
    have K3 : KL.getD 3 kany = kval (.agg (cells8 (nonceS s))) := by rw [hKL]; rfl
    have K4 : KL.getD 4 kany = kval (.string ⟨s.toArray⟩) := by rw [hKL]; rfl
    have K5 : KL.getD 5 kany = kval (.string ⟨(packS s).toArray⟩) := by rw [hKL]; rfl
    have K6 : KL.getD 6 kany = kval (.string ⟨X.toArray⟩) := by rw [hKL]; rfl
    have K7 : KL.getD 7 kany = kval (.tuple #[(.string ⟨(packS s).toArray⟩), (.int .i64 0)]) := by rw [hKL]; rfl
    have K8 : KL.getD 8 kany = kval (.tuple #[(.string ⟨(packS s).toArray⟩), (.int .i64 0)]) := by rw [hKL]; rfl
    have K9 : KL.getD 9 kany = kval (.string ⟨(packS s).toArray⟩) := by rw [hKL]; rfl
    have K10 : KL.getD 10 kany = kval (.int .i64 0) := by rw [hKL]; rfl
    have K11 : KL.getD 11 kany = kval (.string ⟨(packS s).toArray⟩) := by rw [hKL]; rfl
    have K12 : KL.getD 12 kany = kval (.int .i64 0) := by rw [hKL]; rfl
    clear hKL
    refine wp_region_kd 45 (by kernel_rfl) (by kernel_rfl) (by kernel_rfl) hF5.size KL ?_ ?_
    · refine ⟨?_, ?_, ?_, ?_, ?_, ?_, ?_, ?_, ?_, ?_, ?_, ?_, ?_, trivial⟩
      · refine asks_mk fun a W hS hh hd => ⟨wanted_yes rfl, ?_⟩
        exact giv_run (run_ldB rfl (eval_tmp (hh 2 _ rfl (hF5.at 2 rfl))) ((hM1.grow hS).at 0 rfl) Tryd.underlying24 rfl sz32k (szOf hLk)) K0
      · refine asks_mk fun a W hS hh hd => ⟨wanted_yes rfl, ?_⟩
        exact giv_run (run_ldB rfl (eval_tmp (hh 2 _ rfl (hF5.at 2 rfl))) ((hM1.grow hS).at 0 rfl) Tryd.underlying24 rfl sz32k (szOf hLk)) K1
      · refine asks_mk fun a W hS hh hd => ⟨wanted_yes rfl, ?_⟩
        exact giv_run (run_mv rfl (eval_tmp (hh 1 _ rfl (hF5.at 1 rfl)))) K2
      · refine asks_mk fun a W hS hh hd => ⟨wanted_yes rfl, ?_⟩
        exact giv_call (run_call rfl Tryd.func31 (by kernel_rfl) rfl (mapE1 (eval_tmp (hd.val (j := 2) (s := 16) (by kernel_rfl) K2)))) (snonce_any s W) K3
      · refine asks_mk fun a W hS hh hd => ⟨wanted_yes rfl, ?_⟩
        exact giv_run (run_mv rfl (eval_tmp (hh 1 _ rfl (hF5.at 1 rfl)))) K4
      · refine asks_mk fun a W hS hh hd => ⟨wanted_yes rfl, ?_⟩
        exact giv_call (run_call rfl Tryd.func32 (by kernel_rfl) rfl (mapE1 (eval_tmp (hd.val (j := 4) (s := 18) (by kernel_rfl) K4)))) (zpack_any s W (by omega)) K5
      · refine asks_mk fun a W hS hh hd => ⟨wanted_yes rfl, ?_⟩
        exact giv_call (run_call rfl Tryd.func30 (by kernel_rfl) rfl (mapE4 (eval_tmp (hd.val (j := 1) (s := 15) (by kernel_rfl) K1)) (eval_tmp (hd.val (j := 3) (s := 17) (by kernel_rfl) K3)) rfl (eval_tmp (hd.val (j := 5) (s := 19) (by kernel_rfl) K5)))) ((by rw [← hX]; exact sseal_any k (nonceS s) [108, 122] (packS s) W (HG.below (hM1.grow hS).below) hLk (nonceS_len _) (by simp; omega))) K6
      · refine asks_mk fun a W hS hh hd => ⟨wanted_yes rfl, ?_⟩
        exact giv_call (run_call rfl Tryd.func29 (by kernel_rfl) rfl (mapE3 (eval_tmp (hd.val (j := 0) (s := 14) (by kernel_rfl) K0)) rfl (eval_tmp (hd.val (j := 6) (s := 20) (by kernel_rfl) K6)))) ((by have h := sopen_any k [108, 122] X W (HG.below (hM1.grow hS).below) hLk (by simp; omega); rw [hO1] at h; exact h)) K7
      · refine asks_mk fun a W hS hh hd => ⟨wanted_yes rfl, ?_⟩
        exact giv_run (run_mv rfl (eval_tmp (hd.val (j := 7) (s := 21) (by kernel_rfl) K7))) K8
      · refine asks_mk fun a W hS hh hd => ⟨wanted_yes rfl, ?_⟩
        exact giv_run (run_ext rfl (eval_tmp (hd.val (j := 8) (s := 13) (by kernel_rfl) K8)) rfl) K9
      · refine asks_mk fun a W hS hh hd => ⟨wanted_yes rfl, ?_⟩
        exact giv_run (run_ext rfl (eval_tmp (hd.val (j := 8) (s := 13) (by kernel_rfl) K8)) rfl) K10
      · refine asks_mk fun a W hS hh hd => ⟨wanted_yes rfl, ?_⟩
        exact giv_run (run_as rfl (eval_tmp (hd.val (j := 9) (s := 22) (by kernel_rfl) K9))) K11
      · refine asks_mk fun a W hS hh hd => ⟨wanted_yes rfl, ?_⟩
        exact giv_run (run_as rfl (eval_tmp (hd.val (j := 10) (s := 23) (by kernel_rfl) K10))) K12
    · intro a6 w2 hb2 hK
      have e0 := hK.val (i := 0) (s := 14) (by kernel_rfl) K0
      have e1 := hK.val (i := 1) (s := 15) (by kernel_rfl) K1
      have e2 := hK.val (i := 2) (s := 16) (by kernel_rfl) K2
      have e3 := hK.val (i := 3) (s := 17) (by kernel_rfl) K3
      have e4 := hK.val (i := 4) (s := 18) (by kernel_rfl) K4
      have e5 := hK.val (i := 5) (s := 19) (by kernel_rfl) K5
      have e6 := hK.val (i := 6) (s := 20) (by kernel_rfl) K6
      have e7 := hK.val (i := 7) (s := 21) (by kernel_rfl) K7
      have e8 := hK.val (i := 8) (s := 13) (by kernel_rfl) K8
      have e9 := hK.val (i := 9) (s := 22) (by kernel_rfl) K9
      have e10 := hK.val (i := 10) (s := 23) (by kernel_rfl) K10
      have e11 := hK.val (i := 11) (s := 5) (by kernel_rfl) K11
      have e12 := hK.val (i := 12) (s := 6) (by kernel_rfl) K12
      have hF6 : Fr a6 45 [(0, (.agg (cells8 k))), (1, (.string ⟨s.toArray⟩)), (4, (.bool false)), (5, (.string ⟨(packS s).toArray⟩)), (6, (.int .i64 0)), (9, (.string ⟨s.toArray⟩)), (10, (.int .i64 (s.length : Int))), (11, (.bool false))] := (hK.fr hF5 [(.agg (cells8 k)), (.agg (cells8 k)), (.string ⟨s.toArray⟩), (.agg (cells8 (nonceS s))), (.string ⟨s.toArray⟩), (.string ⟨(packS s).toArray⟩), (.string ⟨X.toArray⟩), (.tuple #[(.string ⟨(packS s).toArray⟩), (.int .i64 0)]), (.tuple #[(.string ⟨(packS s).toArray⟩), (.int .i64 0)]), (.string ⟨(packS s).toArray⟩), (.int .i64 0), (.string ⟨(packS s).toArray⟩), (.int .i64 0)] ⟨e0, e1, e2, e3, e4, e5, e6, e7, e8, e9, e10, e11, e12, trivial⟩).sub ⟨rfl, rfl, rfl, rfl, rfl, rfl, rfl, rfl, trivial⟩
      have hM2 := hM1.grow hb2
      clear hK K0 e0 K1 e1 K2 e2 K3 e3 K4 e4 K5 e5 K6 e6 K7 e7 K8 e8 K9 e9 K10 e10 K11 e11 K12 e12
      clear hF5 hM1
      refine nx ?_
      refine wp_seq ?_
      refine wp_region_lit ?_
      refine sq (v := (.string ⟨(packS s).toArray⟩)) hF6 (wantedS rfl) (run_mv rfl (hF6.ev 5 rfl)) rfl (by decide) fun a7 hF7 => ?_
      refine sq (v := (.string ⟨s.toArray⟩)) hF7 (wantedS rfl) (run_mv rfl (hF7.ev 1 rfl)) rfl (by decide) fun a8 hF8 => ?_
      refine sq (v := (.int .i64 (s.length : Int))) hF8 (wantedS rfl) (run_len rfl (hF8.ev 26 rfl) rfl Tryd.underlying9) rfl (by decide) fun a9 hF9 => ?_
      refine sqC (v := (.tuple #[(.string ⟨s.toArray⟩), (.int .i64 0)])) hF9 hM2 (wantedS rfl) (run_call rfl Tryd.func33 (by kernel_rfl) rfl (mapE2 (hF9.ev 25 rfl) (hF9.ev 27 rfl))) rfl (by decide) ((by have h := zunp_any (packS s) (s.length : Int) w2 (by omega) (by omega) (by omega); rw [unpS_fit s _ (Int.le_refl _)] at h; exact h)) fun a10 w3 hb3 hF10 hM3 => ?_
      refine sq (v := (.tuple #[(.string ⟨s.toArray⟩), (.int .i64 0)])) hF10 (wantedS rfl) (run_mv rfl (hF10.ev 28 rfl)) rfl (by decide) fun a11 hF11 => ?_
      refine sq (v := (.string ⟨s.toArray⟩)) hF11 (wantedS rfl) (run_ext rfl (hF11.ev 24 rfl) rfl) rfl (by decide) fun a12 hF12 => ?_
      refine sq (v := (.int .i64 0)) hF12 (wantedS rfl) (run_ext rfl (hF12.ev 24 rfl) rfl) rfl (by decide) fun a13 hF13 => ?_
      refine sq (v := (.string ⟨s.toArray⟩)) hF13 (wantedS rfl) (run_as rfl (hF13.ev 29 rfl)) rfl (by decide) fun a14 hF14 => ?_
      refine sq (v := (.int .i64 0)) hF14 (wantedS rfl) (run_as rfl (hF14.ev 30 rfl)) rfl (by decide) fun a15 hF15 => ?_
      refine sqEnd ?_
      clear hF6 hF7 hF8 hF9 hF10 hF11 hF12 hF13 hF14 hM2
      refine nx ?_
      refine wp_seq ?_
      refine wp_region_lit ?_
      refine sq (v := (.int .i64 0)) hF15 (wantedS rfl) (run_mv rfl (hF15.ev 6 rfl)) rfl (by decide) fun a16 hF16 => ?_
      refine sq (v := (.bool true)) hF16 (wantedS rfl) (run_eqi rfl (hF16.ev 31 rfl) rfl (beq_self_eq_true _)) rfl (by decide) fun a17 hF17 => ?_
      refine sq (v := (.bool true)) hF17 (wantedS rfl) (run_mv rfl (hF17.ev 32 rfl)) rfl (by decide) fun a18 hF18 => ?_
      refine sq (v := (.int .i64 0)) hF18 (wantedG hF18 rfl rfl rfl rfl rfl) (run_mv rfl (hF18.ev 8 rfl)) rfl (by decide) fun a19 hF19 => ?_
      refine sq (v := (.bool true)) hF19 (wantedG hF19 rfl rfl rfl rfl rfl) (run_eqi rfl (hF19.ev 34 rfl) rfl (beq_self_eq_true _)) rfl (by decide) fun a20 hF20 => ?_
      refine sq (v := (.bool true)) hF20 (wantedS rfl) (run_pick rfl (hF20.ev 33 rfl) (hF20.ev 35 rfl) rfl) rfl (by decide) fun a21 hF21 => ?_
      refine sq (v := (.bool true)) hF21 (wantedS rfl) (run_mv rfl (hF21.ev 36 rfl)) rfl (by decide) fun a22 hF22 => ?_
      refine sq (v := (.string ⟨s.toArray⟩)) hF22 (wantedG hF22 rfl rfl rfl rfl rfl) (run_mv rfl (hF22.ev 7 rfl)) rfl (by decide) fun a23 hF23 => ?_
      refine sq (v := (.string ⟨s.toArray⟩)) hF23 (wantedG hF23 rfl rfl rfl rfl rfl) (run_mv rfl (hF23.ev 1 rfl)) rfl (by decide) fun a24 hF24 => ?_
      refine sq (v := (.bool true)) hF24 (wantedG hF24 rfl rfl rfl rfl rfl) (run_eqs rfl (hF24.ev 38 rfl) (hF24.ev 39 rfl) (beq_self_eq_true _)) rfl (by decide) fun a25 hF25 => ?_
      refine sq (v := (.bool true)) hF25 (wantedS rfl) (run_pick rfl (hF25.ev 37 rfl) (hF25.ev 40 rfl) rfl) rfl (by decide) fun a26 hF26 => ?_
      refine sq (v := (.bool true)) hF26 (wantedS rfl) (run_mv rfl (hF26.ev 41 rfl)) rfl (by decide) fun a27 hF27 => ?_
      refine sqC (v := (.bool true)) hF27 hM3 (wantedG hF27 rfl rfl rfl rfl rfl) (run_call rfl Tryd.func28 (by kernel_rfl) rfl (mapE0 )) rfl (by decide) (zawake_any w3) fun a28 w4 hb4 hF28 hM4 => ?_
      refine sq (v := (.bool true)) hF28 (wantedS rfl) (run_pick rfl (hF28.ev 42 rfl) (hF28.ev 43 rfl) rfl) rfl (by decide) fun a29 hF29 => ?_
      refine sq (v := (.bool true)) hF29 (wantedS rfl) (run_as rfl (hF29.ev 44 rfl)) rfl (by decide) fun a30 hF30 => ?_
      refine sqEnd ?_
      clear hF15 hF16 hF17 hF18 hF19 hF20 hF21 hF22 hF23 hF24 hF25 hF26 hF27 hF28 hF29 hM3
      refine nx ?_
      refine wp_ret ?_
      exact ret1 hF30 rfl rfl ⟨rfl, hM4.below⟩
end Go.Proofs.YtpobmaklgnioeaaDoor
