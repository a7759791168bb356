/- The walk of past.best. Printed by gen_lz5.py. -/
import Derived.Test.YtpobmaklgnioeaaDoorLz4
namespace Go.Proofs.YtpobmaklgnioeaaDoor
open Go.RowKit

set_option maxRecDepth 100000 in
set_option maxHeartbeats 1000000 in
theorem zbest_any (s : List UInt8) (f : List UInt8 → Option Nat) (zs : List Int) (gp gm ga k p : Nat) (w : World) (hB : Blk w gp 80 #[.string ⟨s.toArray⟩, .map (some gm), .slice (some ⟨ga, 0, none⟩) s.length s.length]) (hmp : ∃ ob, w.heap[gm]? = some ob ∧ isMap4 f k ob) (hA : Blk w ga 3 (cellsI zs)) (hs : s.length ≤ 2 ^ 32) (hp : p ≤ s.length) (hf : ∀ K, K.length = 4 → f K = lastS s K p) (hz : ∀ i, i < p → i + 4 ≤ s.length → zs[i]? = some (encS (lastS s (fourS s i) i))) : Calls Tryd.prog 53 #[(.pointer (some ⟨gp, 0, none⟩)), .int .i64 (p : Int)] w fun e w' => e = .returned (.tuple #[.int .i64 ((best4 s p (min p 65535)).1 : Int), .int .i64 ((best4 s p (min p 65535)).2 : Int)]) ∧ Below w.heap.size w w' := by
  by_cases h4 : s.length - p < 4
  · have hres := best4_few (s := s) h4 (min p 65535)
    refine walk_enter Tryd.func53 rfl rfl rfl fun a0 hF0 => ?_
    have hM0 := Mem.new w
    refine wp_seq ?_
    refine wp_region_lit ?_
    refine sqNew (cs := #[(.pointer (some ⟨gp, 0, none⟩))]) (t := 111) hF0 hM0 (wantedS rfl) (run_box1 rfl (hF0.ev 0 rfl)) rfl (by decide) fun g0 a1 w1 hgg0 hb1 hF1 hM1 => ?_
    refine sq (v := (.int .i64 0)) hF1 (wantedS rfl) (run_as rfl rfl) rfl (by decide) fun a2 hF2 => ?_
    refine sq (v := (.int .i64 0)) hF2 (wantedS rfl) (run_as rfl rfl) rfl (by decide) fun a3 hF3 => ?_
    refine sqEnd ?_
    clear hF0 hF1 hF2 hM0
    refine nx ?_
    refine wp_seq ?_
    refine wp_region_lit ?_
    refine sq (v := (.pointer (some ⟨gp, 0, none⟩))) hF3 (wantedS rfl) (run_ld1 rfl (hF3.ev 2 rfl) (hM1.at 0 rfl) (by kernel_rfl)) rfl (by decide) fun a4 hF4 => ?_
    refine sq (v := (.int .i64 (p : Int))) hF4 (wantedS rfl) (run_mv rfl (hF4.ev 1 rfl)) rfl (by decide) fun a5 hF5 => ?_
    refine sqC (v := (.tuple #[(.agg (cells8 (List.replicate 4 0))), (.bool false)])) hF5 hM1 (wantedS rfl) (run_call rfl Tryd.func74 (by kernel_rfl) rfl (mapE2 (hF5.ev 16 rfl) (hF5.ev 17 rfl))) rfl (by decide) (zfour_no s gp gm ga p w1 (hB.below hM1.below hB.lt) hs hp h4) fun a6 w2 hb2 hF6 hM2 => ?_
    refine sq (v := (.tuple #[(.agg (cells8 (List.replicate 4 0))), (.bool false)])) hF6 (wantedS rfl) (run_mv rfl (hF6.ev 18 rfl)) rfl (by decide) fun a7 hF7 => ?_
    refine sq (v := (.agg (cells8 (List.replicate 4 0)))) hF7 (wantedS rfl) (run_ext rfl (hF7.ev 15 rfl) rfl) rfl (by decide) fun a8 hF8 => ?_
    refine sq (v := (.bool false)) hF8 (wantedS rfl) (run_ext rfl (hF8.ev 15 rfl) rfl) rfl (by decide) fun a9 hF9 => ?_
    refine sqNew (cs := (cells8 (List.replicate 4 0))) (t := 112) hF9 hM2 (wantedS rfl) (run_alloc rfl (by kernel_rfl)) rfl (by decide) fun g1 a10 w3 hgg1 hb3 hF10 hM3 => ?_
    refine sqStore (i := 0) hF10 hM3 rfl rfl rfl (hF10.ev 6 rfl) (hF10.ev 19 rfl) rfl sz4 (szOf List.length_replicate) (szOf List.length_replicate) (cells8_one _) fun a11 w4 hF11 hM4 => ?_
    refine sq (v := (.bool false)) hF11 (wantedS rfl) (run_as rfl (hF11.ev 20 rfl)) rfl (by decide) fun a12 hF12 => ?_
    refine sqEnd ?_
    clear hF3 hF4 hF5 hF6 hF7 hF8 hF9 hF10 hF11 hM1 hM2 hM3
    refine nx ?_
    refine wp_seq ?_
    refine wp_seq ?_
    refine wp_region_lit ?_
    refine sq (v := (.bool false)) hF12 (wantedS rfl) (run_mv rfl (hF12.ev 7 rfl)) rfl (by decide) fun a13 hF13 => ?_
    refine sq (v := (.bool true)) hF13 (wantedS rfl) (run_not rfl (hF13.ev 21 rfl)) rfl (by decide) fun a14 hF14 => ?_
    refine sqEnd ?_
    clear hF12 hF13
    refine nx ?_
    refine wp_cond_true (hF14.ev 22 rfl) ?_
    refine wp_seq ?_
    refine wp_region_lit ?_
    refine sq (v := (.int .i64 0)) hF14 (wantedS rfl) (run_as rfl rfl) rfl (by decide) fun a15 hF15 => ?_
    refine sq (v := (.int .i64 0)) hF15 (wantedS rfl) (run_as rfl rfl) rfl (by decide) fun a16 hF16 => ?_
    refine sqEnd ?_
    clear hF14 hF15
    refine nx ?_
    refine wp_ret ?_
    refine nxRet ?_
    exact ret2 hF16 rfl rfl rfl ⟨by rw [hres]; rfl, hM4.below⟩
  obtain ⟨K, hK⟩ : ∃ K, fourS s p = K := ⟨_, rfl⟩
  have hk4 : K.length = 4 := by rw [← hK]; exact fourS_len (by omega)
  have hfK := hf K hk4
  cases hl : lastS s K p with
  | none =>
    rw [hl] at hfK
    have hno := lastS_none hl
    have hres : best4 s p (min p 65535) = (0, 0) := by
      rw [best4_end1 (Nat.le_refl p) (fun i hi => by rw [hK]; exact hno i hi) (by omega), Nat.sub_self]; rfl
    refine walk_enter Tryd.func53 rfl rfl rfl fun a0 hF0 => ?_
    have hM0 := Mem.new w
    refine wp_seq ?_
    refine wp_region_lit ?_
    refine sqNew (cs := #[(.pointer (some ⟨gp, 0, none⟩))]) (t := 111) hF0 hM0 (wantedS rfl) (run_box1 rfl (hF0.ev 0 rfl)) rfl (by decide) fun g0 a1 w1 hgg0 hb1 hF1 hM1 => ?_
    refine sq (v := (.int .i64 0)) hF1 (wantedS rfl) (run_as rfl rfl) rfl (by decide) fun a2 hF2 => ?_
    refine sq (v := (.int .i64 0)) hF2 (wantedS rfl) (run_as rfl rfl) rfl (by decide) fun a3 hF3 => ?_
    refine sqEnd ?_
    clear hF0 hF1 hF2 hM0
    refine nx ?_
    refine wp_seq ?_
    refine wp_region_lit ?_
    refine sq (v := (.pointer (some ⟨gp, 0, none⟩))) hF3 (wantedS rfl) (run_ld1 rfl (hF3.ev 2 rfl) (hM1.at 0 rfl) (by kernel_rfl)) rfl (by decide) fun a4 hF4 => ?_
    refine sq (v := (.int .i64 (p : Int))) hF4 (wantedS rfl) (run_mv rfl (hF4.ev 1 rfl)) rfl (by decide) fun a5 hF5 => ?_
    refine sqC (v := (.tuple #[(.agg (cells8 K)), (.bool true)])) hF5 hM1 (wantedS rfl) (run_call rfl Tryd.func74 (by kernel_rfl) rfl (mapE2 (hF5.ev 16 rfl) (hF5.ev 17 rfl))) rfl (by decide) (zfour_yes s K gp gm ga p w1 (hB.below hM1.below hB.lt) hs hp h4 hK) fun a6 w2 hb2 hF6 hM2 => ?_
    refine sq (v := (.tuple #[(.agg (cells8 K)), (.bool true)])) hF6 (wantedS rfl) (run_mv rfl (hF6.ev 18 rfl)) rfl (by decide) fun a7 hF7 => ?_
    refine sq (v := (.agg (cells8 K))) hF7 (wantedS rfl) (run_ext rfl (hF7.ev 15 rfl) rfl) rfl (by decide) fun a8 hF8 => ?_
    refine sq (v := (.bool true)) hF8 (wantedS rfl) (run_ext rfl (hF8.ev 15 rfl) rfl) rfl (by decide) fun a9 hF9 => ?_
    refine sqNew (cs := (cells8 (List.replicate 4 0))) (t := 112) hF9 hM2 (wantedS rfl) (run_alloc rfl (by kernel_rfl)) rfl (by decide) fun g1 a10 w3 hgg1 hb3 hF10 hM3 => ?_
    refine sqStore (i := 0) hF10 hM3 rfl rfl rfl (hF10.ev 6 rfl) (hF10.ev 19 rfl) rfl sz4 (szOf hk4) (szOf List.length_replicate) (cells8_one _) fun a11 w4 hF11 hM4 => ?_
    refine sq (v := (.bool true)) hF11 (wantedS rfl) (run_as rfl (hF11.ev 20 rfl)) rfl (by decide) fun a12 hF12 => ?_
    refine sqEnd ?_
    clear hF3 hF4 hF5 hF6 hF7 hF8 hF9 hF10 hF11 hM1 hM2 hM3
    refine nx ?_
    refine wp_seq ?_
    refine wp_seq ?_
    refine wp_region_lit ?_
    refine sq (v := (.bool true)) hF12 (wantedS rfl) (run_mv rfl (hF12.ev 7 rfl)) rfl (by decide) fun a13 hF13 => ?_
    refine sq (v := (.bool false)) hF13 (wantedS rfl) (run_not rfl (hF13.ev 21 rfl)) rfl (by decide) fun a14 hF14 => ?_
    refine sqEnd ?_
    clear hF12 hF13
    refine nx ?_
    refine wp_cond_false (hF14.ev 22 rfl) ?_
    refine wp_skip ?_
    refine nx ?_
    refine wp_seq ?_
    obtain ⟨KL, hKL⟩ : ∃ KL, KL = [kval (.pointer (some ⟨gp, 0, none⟩)), kval (.pointer (some ⟨gp, 0, none⟩)), kval (.pointer (some ⟨gp, 1, none⟩)), kval (.map (some gm)), kval (.agg (cells8 K)), kval (.tuple #[(.int .i64 0), (.bool false)]), kval (.tuple #[(.int .i64 0), (.bool false)]), kval (.int .i64 0), kval (.bool false), kval (.int .i64 0), kval (.bool false)] := ⟨_, rfl⟩
    have K0 : KL.getD 0 kany = kval (.pointer (some ⟨gp, 0, none⟩)) := by rw [hKL]; rfl
    have K1 : KL.getD 1 kany = kval (.pointer (some ⟨gp, 0, none⟩)) := by rw [hKL]; rfl
    have K2 : KL.getD 2 kany = kval (.pointer (some ⟨gp, 1, none⟩)) := by rw [hKL]; rfl
    have K3 : KL.getD 3 kany = kval (.map (some gm)) := by rw [hKL]; rfl
    have K4 : KL.getD 4 kany = kval (.agg (cells8 K)) := by rw [hKL]; rfl
    have K5 : KL.getD 5 kany = kval (.tuple #[(.int .i64 0), (.bool false)]) := by rw [hKL]; rfl
    have K6 : KL.getD 6 kany = kval (.tuple #[(.int .i64 0), (.bool false)]) := by rw [hKL]; rfl
    have K7 : KL.getD 7 kany = kval (.int .i64 0) := by rw [hKL]; rfl
    have K8 : KL.getD 8 kany = kval (.bool false) := by rw [hKL]; rfl
    have K9 : KL.getD 9 kany = kval (.int .i64 0) := by rw [hKL]; rfl
    have K10 : KL.getD 10 kany = kval (.bool false) := by rw [hKL]; rfl
    clear hKL
    refine wp_region_kd 93 (by kernel_rfl) (by kernel_rfl) (by kernel_rfl) hF14.size KL ?_ ?_
    · refine ⟨?_, ?_, ?_, ?_, ?_, ?_, ?_, ?_, ?_, ?_, ?_, trivial⟩
      · refine asks_mk fun a W hS hh hd => ⟨wanted_yes rfl, ?_⟩
        exact giv_run (run_ld1 rfl (eval_tmp (hh 2 _ rfl (hF14.at 2 rfl))) ((hM4.grow hS).at 1 rfl) (by kernel_rfl)) K0
      · refine asks_mk fun a W hS hh hd => ⟨wanted_yes rfl, ?_⟩
        exact giv_run (run_nilp rfl (eval_tmp (hd.val (j := 0) (s := 24) (by kernel_rfl) K0))) K1
      · refine asks_mk fun a W hS hh hd => ⟨wanted_yes rfl, ?_⟩
        exact giv_run (run_fldA (m := 1) (s := 1) rfl (eval_tmp (hd.val (j := 1) (s := 25) (by kernel_rfl) K1)) Tryd.underlying80 rfl rfl (by kernel_rfl) (by decide)) K2
      · refine asks_mk fun a W hS hh hd => ⟨wanted_yes rfl, ?_⟩
        exact giv_run (run_ldF rfl (eval_tmp (hd.val (j := 2) (s := 26) (by kernel_rfl) K2)) (hB.below (hM4.grow hS).below hB.lt) rfl (by kernel_rfl)) K3
      · refine asks_mk fun a W hS hh hd => ⟨wanted_yes rfl, ?_⟩
        exact giv_run (run_ldB rfl (eval_tmp (hh 6 _ rfl (hF14.at 6 rfl))) ((hM4.grow hS).at 0 rfl) Tryd.underlying112 rfl sz4 (szOf hk4)) K4
      · refine asks_mk fun a W hS hh hd => ⟨wanted_yes rfl, ?_⟩
        exact giv_run (eqvV (by rw [hfK]; rfl) (run_inMap4 rfl (eval_tmp (hd.val (j := 3) (s := 27) (by kernel_rfl) K3)) (eval_tmp (hd.val (j := 4) (s := 28) (by kernel_rfl) K4)) (ob_below (hM4.grow hS).below hmp) hk4)) K5
      · refine asks_mk fun a W hS hh hd => ⟨wanted_yes rfl, ?_⟩
        exact giv_run (run_mv rfl (eval_tmp (hd.val (j := 5) (s := 29) (by kernel_rfl) K5))) K6
      · refine asks_mk fun a W hS hh hd => ⟨wanted_yes rfl, ?_⟩
        exact giv_run (run_ext rfl (eval_tmp (hd.val (j := 6) (s := 23) (by kernel_rfl) K6)) rfl) K7
      · refine asks_mk fun a W hS hh hd => ⟨wanted_yes rfl, ?_⟩
        exact giv_run (run_ext rfl (eval_tmp (hd.val (j := 6) (s := 23) (by kernel_rfl) K6)) rfl) K8
      · refine asks_mk fun a W hS hh hd => ⟨wanted_yes rfl, ?_⟩
        exact giv_run (run_as rfl (eval_tmp (hd.val (j := 7) (s := 30) (by kernel_rfl) K7))) K9
      · refine asks_mk fun a W hS hh hd => ⟨wanted_yes rfl, ?_⟩
        exact giv_run (run_as rfl (eval_tmp (hd.val (j := 8) (s := 31) (by kernel_rfl) K8))) K10
    · intro a15 w5 hb5 hK
      have e0 := hK.val (i := 0) (s := 24) (by kernel_rfl) K0
      have e1 := hK.val (i := 1) (s := 25) (by kernel_rfl) K1
      have e2 := hK.val (i := 2) (s := 26) (by kernel_rfl) K2
      have e3 := hK.val (i := 3) (s := 27) (by kernel_rfl) K3
      have e4 := hK.val (i := 4) (s := 28) (by kernel_rfl) K4
      have e5 := hK.val (i := 5) (s := 29) (by kernel_rfl) K5
      have e6 := hK.val (i := 6) (s := 23) (by kernel_rfl) K6
      have e7 := hK.val (i := 7) (s := 30) (by kernel_rfl) K7
      have e8 := hK.val (i := 8) (s := 31) (by kernel_rfl) K8
      have e9 := hK.val (i := 9) (s := 8) (by kernel_rfl) K9
      have e10 := hK.val (i := 10) (s := 9) (by kernel_rfl) K10
      have hF15 : Fr a15 93 [(0, (.pointer (some ⟨gp, 0, none⟩))), (1, (.int .i64 (p : Int))), (2, (.pointer (some ⟨g0, 0, none⟩))), (4, (.int .i64 0)), (5, (.int .i64 0)), (6, (.pointer (some ⟨g1, 0, none⟩))), (7, (.bool true)), (8, (.int .i64 0)), (9, (.bool false)), (15, (.tuple #[(.agg (cells8 K)), (.bool true)])), (16, (.pointer (some ⟨gp, 0, none⟩))), (17, (.int .i64 (p : Int))), (18, (.tuple #[(.agg (cells8 K)), (.bool true)])), (19, (.agg (cells8 K))), (20, (.bool true)), (21, (.bool true)), (22, (.bool false))] := (hK.fr hF14 [(.pointer (some ⟨gp, 0, none⟩)), (.pointer (some ⟨gp, 0, none⟩)), (.pointer (some ⟨gp, 1, none⟩)), (.map (some gm)), (.agg (cells8 K)), (.tuple #[(.int .i64 0), (.bool false)]), (.tuple #[(.int .i64 0), (.bool false)]), (.int .i64 0), (.bool false), (.int .i64 0), (.bool false)] ⟨e0, e1, e2, e3, e4, e5, e6, e7, e8, e9, e10, trivial⟩).sub ⟨rfl, rfl, rfl, rfl, rfl, rfl, rfl, rfl, rfl, rfl, rfl, rfl, rfl, rfl, rfl, rfl, rfl, trivial⟩
      have hM5 := hM4.grow hb5
      clear hK K0 e0 K1 e1 K2 e2 K3 e3 K4 e4 K5 e5 K6 e6 K7 e7 K8 e8 K9 e9 K10 e10
      clear hF14 hM4
      refine nx ?_
      refine wp_seq ?_
      refine wp_seq ?_
      refine wp_region_lit ?_
      refine sq (v := (.bool false)) hF15 (wantedS rfl) (run_mv rfl (hF15.ev 9 rfl)) rfl (by decide) fun a16 hF16 => ?_
      refine sq (v := (.bool true)) hF16 (wantedS rfl) (run_not rfl (hF16.ev 32 rfl)) rfl (by decide) fun a17 hF17 => ?_
      refine sqEnd ?_
      clear hF15 hF16
      refine nx ?_
      refine wp_cond_true (hF17.ev 33 rfl) ?_
      refine wp_seq ?_
      refine wp_region_lit ?_
      refine sq (v := (.int .i64 0)) hF17 (wantedS rfl) (run_as rfl rfl) rfl (by decide) fun a18 hF18 => ?_
      refine sq (v := (.int .i64 0)) hF18 (wantedS rfl) (run_as rfl rfl) rfl (by decide) fun a19 hF19 => ?_
      refine sqEnd ?_
      clear hF17 hF18
      refine nx ?_
      refine wp_ret ?_
      refine nxRet ?_
      exact ret2 hF19 rfl rfl rfl ⟨by rw [hres]; rfl, hM5.below⟩
  | some j0 =>
    rw [hl] at hfK
    have hj0 := (lastS_some hl).1
    obtain ⟨mo, hmo⟩ : ∃ mo, mo = mostS s p := ⟨_, rfl⟩
    have hmo2 : mo = min 131 (s.length - p) := hmo
    refine walk_enter Tryd.func53 rfl rfl rfl fun a0 hF0 => ?_
    have hM0 := Mem.new w
    refine wp_seq ?_
    refine wp_region_lit ?_
    refine sqNew (cs := #[(.pointer (some ⟨gp, 0, none⟩))]) (t := 111) hF0 hM0 (wantedS rfl) (run_box1 rfl (hF0.ev 0 rfl)) rfl (by decide) fun g0 a1 w1 hgg0 hb1 hF1 hM1 => ?_
    refine sq (v := (.int .i64 0)) hF1 (wantedS rfl) (run_as rfl rfl) rfl (by decide) fun a2 hF2 => ?_
    refine sq (v := (.int .i64 0)) hF2 (wantedS rfl) (run_as rfl rfl) rfl (by decide) fun a3 hF3 => ?_
    refine sqEnd ?_
    clear hF0 hF1 hF2 hM0
    refine nx ?_
    refine wp_seq ?_
    refine wp_region_lit ?_
    refine sq (v := (.pointer (some ⟨gp, 0, none⟩))) hF3 (wantedS rfl) (run_ld1 rfl (hF3.ev 2 rfl) (hM1.at 0 rfl) (by kernel_rfl)) rfl (by decide) fun a4 hF4 => ?_
    refine sq (v := (.int .i64 (p : Int))) hF4 (wantedS rfl) (run_mv rfl (hF4.ev 1 rfl)) rfl (by decide) fun a5 hF5 => ?_
    refine sqC (v := (.tuple #[(.agg (cells8 K)), (.bool true)])) hF5 hM1 (wantedS rfl) (run_call rfl Tryd.func74 (by kernel_rfl) rfl (mapE2 (hF5.ev 16 rfl) (hF5.ev 17 rfl))) rfl (by decide) (zfour_yes s K gp gm ga p w1 (hB.below hM1.below hB.lt) hs hp h4 hK) fun a6 w2 hb2 hF6 hM2 => ?_
    refine sq (v := (.tuple #[(.agg (cells8 K)), (.bool true)])) hF6 (wantedS rfl) (run_mv rfl (hF6.ev 18 rfl)) rfl (by decide) fun a7 hF7 => ?_
    refine sq (v := (.agg (cells8 K))) hF7 (wantedS rfl) (run_ext rfl (hF7.ev 15 rfl) rfl) rfl (by decide) fun a8 hF8 => ?_
    refine sq (v := (.bool true)) hF8 (wantedS rfl) (run_ext rfl (hF8.ev 15 rfl) rfl) rfl (by decide) fun a9 hF9 => ?_
    refine sqNew (cs := (cells8 (List.replicate 4 0))) (t := 112) hF9 hM2 (wantedS rfl) (run_alloc rfl (by kernel_rfl)) rfl (by decide) fun g1 a10 w3 hgg1 hb3 hF10 hM3 => ?_
    refine sqStore (i := 0) hF10 hM3 rfl rfl rfl (hF10.ev 6 rfl) (hF10.ev 19 rfl) rfl sz4 (szOf hk4) (szOf List.length_replicate) (cells8_one _) fun a11 w4 hF11 hM4 => ?_
    refine sq (v := (.bool true)) hF11 (wantedS rfl) (run_as rfl (hF11.ev 20 rfl)) rfl (by decide) fun a12 hF12 => ?_
    refine sqEnd ?_
    clear hF3 hF4 hF5 hF6 hF7 hF8 hF9 hF10 hF11 hM1 hM2 hM3
    refine nx ?_
    refine wp_seq ?_
    refine wp_seq ?_
    refine wp_region_lit ?_
    refine sq (v := (.bool true)) hF12 (wantedS rfl) (run_mv rfl (hF12.ev 7 rfl)) rfl (by decide) fun a13 hF13 => ?_
    refine sq (v := (.bool false)) hF13 (wantedS rfl) (run_not rfl (hF13.ev 21 rfl)) rfl (by decide) fun a14 hF14 => ?_
    refine sqEnd ?_
    clear hF12 hF13
    refine nx ?_
    refine wp_cond_false (hF14.ev 22 rfl) ?_
    refine wp_skip ?_
    refine nx ?_
    refine wp_seq ?_
    obtain ⟨KL, hKL⟩ : ∃ KL, KL = [kval (.pointer (some ⟨gp, 0, none⟩)), kval (.pointer (some ⟨gp, 0, none⟩)), kval (.pointer (some ⟨gp, 1, none⟩)), kval (.map (some gm)), kval (.agg (cells8 K)), kval (.tuple #[(.int .i64 (j0 : Int)), (.bool true)]), kval (.tuple #[(.int .i64 (j0 : Int)), (.bool true)]), kval (.int .i64 (j0 : Int)), kval (.bool true), kval (.int .i64 (j0 : Int)), kval (.bool true)] := ⟨_, rfl⟩
    have K0 : KL.getD 0 kany = kval (.pointer (some ⟨gp, 0, none⟩)) := by rw [hKL]; rfl
    have K1 : KL.getD 1 kany = kval (.pointer (some ⟨gp, 0, none⟩)) := by rw [hKL]; rfl
    have K2 : KL.getD 2 kany = kval (.pointer (some ⟨gp, 1, none⟩)) := by rw [hKL]; rfl
    have K3 : KL.getD 3 kany = kval (.map (some gm)) := by rw [hKL]; rfl
    have K4 : KL.getD 4 kany = kval (.agg (cells8 K)) := by rw [hKL]; rfl
    have K5 : KL.getD 5 kany = kval (.tuple #[(.int .i64 (j0 : Int)), (.bool true)]) := by rw [hKL]; rfl
    have K6 : KL.getD 6 kany = kval (.tuple #[(.int .i64 (j0 : Int)), (.bool true)]) := by rw [hKL]; rfl
    have K7 : KL.getD 7 kany = kval (.int .i64 (j0 : Int)) := by rw [hKL]; rfl
    have K8 : KL.getD 8 kany = kval (.bool true) := by rw [hKL]; rfl
    have K9 : KL.getD 9 kany = kval (.int .i64 (j0 : Int)) := by rw [hKL]; rfl
    have K10 : KL.getD 10 kany = kval (.bool true) := by rw [hKL]; rfl
    clear hKL
    refine wp_region_kd 93 (by kernel_rfl) (by kernel_rfl) (by kernel_rfl) hF14.size KL ?_ ?_
    · refine ⟨?_, ?_, ?_, ?_, ?_, ?_, ?_, ?_, ?_, ?_, ?_, trivial⟩
      · refine asks_mk fun a W hS hh hd => ⟨wanted_yes rfl, ?_⟩
        exact giv_run (run_ld1 rfl (eval_tmp (hh 2 _ rfl (hF14.at 2 rfl))) ((hM4.grow hS).at 1 rfl) (by kernel_rfl)) K0
      · refine asks_mk fun a W hS hh hd => ⟨wanted_yes rfl, ?_⟩
        exact giv_run (run_nilp rfl (eval_tmp (hd.val (j := 0) (s := 24) (by kernel_rfl) K0))) K1
      · refine asks_mk fun a W hS hh hd => ⟨wanted_yes rfl, ?_⟩
        exact giv_run (run_fldA (m := 1) (s := 1) rfl (eval_tmp (hd.val (j := 1) (s := 25) (by kernel_rfl) K1)) Tryd.underlying80 rfl rfl (by kernel_rfl) (by decide)) K2
      · refine asks_mk fun a W hS hh hd => ⟨wanted_yes rfl, ?_⟩
        exact giv_run (run_ldF rfl (eval_tmp (hd.val (j := 2) (s := 26) (by kernel_rfl) K2)) (hB.below (hM4.grow hS).below hB.lt) rfl (by kernel_rfl)) K3
      · refine asks_mk fun a W hS hh hd => ⟨wanted_yes rfl, ?_⟩
        exact giv_run (run_ldB rfl (eval_tmp (hh 6 _ rfl (hF14.at 6 rfl))) ((hM4.grow hS).at 0 rfl) Tryd.underlying112 rfl sz4 (szOf hk4)) K4
      · refine asks_mk fun a W hS hh hd => ⟨wanted_yes rfl, ?_⟩
        exact giv_run (eqvV (by rw [hfK]; rfl) (run_inMap4 rfl (eval_tmp (hd.val (j := 3) (s := 27) (by kernel_rfl) K3)) (eval_tmp (hd.val (j := 4) (s := 28) (by kernel_rfl) K4)) (ob_below (hM4.grow hS).below hmp) hk4)) K5
      · refine asks_mk fun a W hS hh hd => ⟨wanted_yes rfl, ?_⟩
        exact giv_run (run_mv rfl (eval_tmp (hd.val (j := 5) (s := 29) (by kernel_rfl) K5))) K6
      · refine asks_mk fun a W hS hh hd => ⟨wanted_yes rfl, ?_⟩
        exact giv_run (run_ext rfl (eval_tmp (hd.val (j := 6) (s := 23) (by kernel_rfl) K6)) rfl) K7
      · refine asks_mk fun a W hS hh hd => ⟨wanted_yes rfl, ?_⟩
        exact giv_run (run_ext rfl (eval_tmp (hd.val (j := 6) (s := 23) (by kernel_rfl) K6)) rfl) K8
      · refine asks_mk fun a W hS hh hd => ⟨wanted_yes rfl, ?_⟩
        exact giv_run (run_as rfl (eval_tmp (hd.val (j := 7) (s := 30) (by kernel_rfl) K7))) K9
      · refine asks_mk fun a W hS hh hd => ⟨wanted_yes rfl, ?_⟩
        exact giv_run (run_as rfl (eval_tmp (hd.val (j := 8) (s := 31) (by kernel_rfl) K8))) K10
    · intro a15 w5 hb5 hK
      have e0 := hK.val (i := 0) (s := 24) (by kernel_rfl) K0
      have e1 := hK.val (i := 1) (s := 25) (by kernel_rfl) K1
      have e2 := hK.val (i := 2) (s := 26) (by kernel_rfl) K2
      have e3 := hK.val (i := 3) (s := 27) (by kernel_rfl) K3
      have e4 := hK.val (i := 4) (s := 28) (by kernel_rfl) K4
      have e5 := hK.val (i := 5) (s := 29) (by kernel_rfl) K5
      have e6 := hK.val (i := 6) (s := 23) (by kernel_rfl) K6
      have e7 := hK.val (i := 7) (s := 30) (by kernel_rfl) K7
      have e8 := hK.val (i := 8) (s := 31) (by kernel_rfl) K8
      have e9 := hK.val (i := 9) (s := 8) (by kernel_rfl) K9
      have e10 := hK.val (i := 10) (s := 9) (by kernel_rfl) K10
      have hF15 : Fr a15 93 [(0, (.pointer (some ⟨gp, 0, none⟩))), (1, (.int .i64 (p : Int))), (2, (.pointer (some ⟨g0, 0, none⟩))), (4, (.int .i64 0)), (5, (.int .i64 0)), (6, (.pointer (some ⟨g1, 0, none⟩))), (7, (.bool true)), (8, (.int .i64 (j0 : Int))), (9, (.bool true)), (15, (.tuple #[(.agg (cells8 K)), (.bool true)])), (16, (.pointer (some ⟨gp, 0, none⟩))), (17, (.int .i64 (p : Int))), (18, (.tuple #[(.agg (cells8 K)), (.bool true)])), (19, (.agg (cells8 K))), (20, (.bool true)), (21, (.bool true)), (22, (.bool false))] := (hK.fr hF14 [(.pointer (some ⟨gp, 0, none⟩)), (.pointer (some ⟨gp, 0, none⟩)), (.pointer (some ⟨gp, 1, none⟩)), (.map (some gm)), (.agg (cells8 K)), (.tuple #[(.int .i64 (j0 : Int)), (.bool true)]), (.tuple #[(.int .i64 (j0 : Int)), (.bool true)]), (.int .i64 (j0 : Int)), (.bool true), (.int .i64 (j0 : Int)), (.bool true)] ⟨e0, e1, e2, e3, e4, e5, e6, e7, e8, e9, e10, trivial⟩).sub ⟨rfl, rfl, rfl, rfl, rfl, rfl, rfl, rfl, rfl, rfl, rfl, rfl, rfl, rfl, rfl, rfl, rfl, trivial⟩
      have hM5 := hM4.grow hb5
      clear hK K0 e0 K1 e1 K2 e2 K3 e3 K4 e4 K5 e5 K6 e6 K7 e7 K8 e8 K9 e9 K10 e10
      clear hF14 hM4
      refine nx ?_
      refine wp_seq ?_
      refine wp_seq ?_
      refine wp_region_lit ?_
      refine sq (v := (.bool true)) hF15 (wantedS rfl) (run_mv rfl (hF15.ev 9 rfl)) rfl (by decide) fun a16 hF16 => ?_
      refine sq (v := (.bool false)) hF16 (wantedS rfl) (run_not rfl (hF16.ev 32 rfl)) rfl (by decide) fun a17 hF17 => ?_
      refine sqEnd ?_
      clear hF15 hF16
      refine nx ?_
      refine wp_cond_false (hF17.ev 33 rfl) ?_
      refine wp_skip ?_
      refine nx ?_
      refine wp_seq ?_
      refine wp_region_lit ?_
      refine sq (v := (.pointer (some ⟨gp, 0, none⟩))) hF17 (wantedS rfl) (run_ld1 rfl (hF17.ev 2 rfl) (hM5.at 1 rfl) (by kernel_rfl)) rfl (by decide) fun a18 hF18 => ?_
      refine sq (v := (.pointer (some ⟨gp, 0, none⟩))) hF18 (wantedS rfl) (run_nilp rfl (hF18.ev 34 rfl)) rfl (by decide) fun a19 hF19 => ?_
      refine sq (v := (.pointer (some ⟨gp, 0, none⟩))) hF19 (wantedS rfl) (run_fldA (m := 1) (s := 0) rfl (hF19.ev 35 rfl) Tryd.underlying80 rfl rfl (by kernel_rfl) (by decide)) rfl (by decide) fun a20 hF20 => ?_
      refine sq (v := (.string ⟨s.toArray⟩)) hF20 (wantedS rfl) (run_ldF rfl (hF20.ev 36 rfl) (hB.below hM5.below hB.lt) rfl (by kernel_rfl)) rfl (by decide) fun a21 hF21 => ?_
      refine sq (v := (.int .i64 (s.length : Int))) hF21 (wantedS rfl) (run_len rfl (hF21.ev 37 rfl) rfl Tryd.underlying9) rfl (by decide) fun a22 hF22 => ?_
      refine sq (v := (.int .i64 (p : Int))) hF22 (wantedS rfl) (run_mv rfl (hF22.ev 1 rfl)) rfl (by decide) fun a23 hF23 => ?_
      refine sq (v := (.int .i64 ((s.length - p : Nat) : Int))) hF23 (wantedS rfl) (run_sub (r := ((s.length - p : Nat) : Int)) rfl (hF23.ev 38 rfl) (hF23.ev 39 rfl) (by rw [IntKind.wrap_i64]; omega)) rfl (by decide) fun a24 hF24 => ?_
      refine sq (v := (.int .i64 (mo : Int))) hF24 (wantedS rfl) (run_min2 (r := (mo : Int)) rfl rfl (hF24.ev 40 rfl) (by split <;> omega)) rfl (by decide) fun a25 hF25 => ?_
      refine sqNew (cs := #[(.int .i64 0)]) (t := 3) hF25 hM5 (wantedS rfl) (run_alloc1 rfl (by kernel_rfl)) rfl (by decide) fun g2 a26 w6 hgg2 hb6 hF26 hM6 => ?_
      refine sqSet1 (j := 0) hF26 hM6 rfl rfl rfl (hF26.ev 10 rfl) (hF26.ev 41 rfl) rfl fun a27 w7 hgr7 hF27 hM7 => ?_
      refine sqEnd ?_
      clear hF17 hF18 hF19 hF20 hF21 hF22 hF23 hF24 hF25 hF26 hM5 hM6
      refine nx ?_
      refine wp_seq ?_
      refine wp_region_lit ?_
      refine sq (v := (.func (.func 75) #[] #[(.pointer (some ⟨g2, 0, none⟩)), (.pointer (some ⟨g0, 0, none⟩))])) hF27 (wantedS rfl) (run_mkFn rfl (hF27.ev 10 rfl) (hF27.ev 2 rfl)) rfl (by decide) fun a28 hF28 => ?_
      refine sq (v := (.func (.func 75) #[] #[(.pointer (some ⟨g2, 0, none⟩)), (.pointer (some ⟨g0, 0, none⟩))])) hF28 (wantedS rfl) (run_as rfl (hF28.ev 42 rfl)) rfl (by decide) fun a29 hF29 => ?_
      refine sqEnd ?_
      clear hF27 hF28
      refine nx ?_
      refine wp_seq ?_
      refine wp_region_lit ?_
      refine sq (v := (.int .i64 0)) hF29 (wantedS rfl) (run_as rfl rfl) rfl (by decide) fun a30 hF30 => ?_
      refine sq (v := (.int .i64 0)) hF30 (wantedS rfl) (run_as rfl rfl) rfl (by decide) fun a31 hF31 => ?_
      refine sqEnd ?_
      clear hF29 hF30
      refine nx ?_
      refine wp_seq ?_
      refine wp_block ?_
      refine wkLoop (fun m a w2 => ∃ q x12 x13 : Nat, q ≤ p ∧ m = q ∧ p - q ≤ 65535 ∧ best4 s p (p - q) = (x12, x13) ∧ Fr a 93 [(1, .int .i64 (p : Int)), (2, .pointer (some ⟨g0, 0, none⟩)), (8, .int .i64 (encS (lastS s K q))), (10, .pointer (some ⟨g2, 0, none⟩)), (11, (.func (.func 75) #[] #[(.pointer (some ⟨g2, 0, none⟩)), (.pointer (some ⟨g0, 0, none⟩))])), (12, .int .i64 (x12 : Int)), (13, .int .i64 (x13 : Int))] ∧ Mem w [(g2, isB 3 #[.int .i64 (mo : Int)]), (g0, isB 111 #[.pointer (some ⟨gp, 0, none⟩)])] w2) p ⟨p, 0, 0, Nat.le_refl _, rfl, by omega, by rw [Nat.sub_self]; rfl, by rw [hl]; exact hF31.sub ⟨rfl, rfl, rfl, rfl, rfl, rfl, rfl, trivial⟩, hM7.sub (.cons_cons _ (.cons _ (.cons_cons _ .slnil)))⟩ ?_
      clear hl hj0
      rintro m a0 w1 ⟨q, x12, x13, hq, rfl, hd, hb4, hF0, hM0⟩
      have hble := best4_le s p (p - m)
      rw [hb4, ← hmo] at hble
      simp only at hble
      cases hlq : lastS s K m with
      | none =>
        rw [hlq, show encS none = -1 from rfl] at hF0
        have hno := lastS_none hlq
        have hres : best4 s p (min p 65535) = (x12, x13) := by rw [best4_end1 hq (fun i hi => by rw [hK]; exact hno i hi) hd, hb4]
        refine wp_seq ?_
        refine wp_seq ?_
        refine wp_region_lit ?_
        refine sq (v := (.int .i64 (-1))) hF0 (wantedS rfl) (run_mv rfl (hF0.ev 8 rfl)) rfl (by decide) fun a1 hF1 => ?_
        refine sq (v := (.bool false)) hF1 (wantedS rfl) (run_geq rfl (hF1.ev 43 rfl) rfl (decide_eq_false (by omega))) rfl (by decide) fun a2 hF2 => ?_
        refine sq (v := (.bool false)) hF2 (wantedS rfl) (run_mv rfl (hF2.ev 44 rfl)) rfl (by decide) fun a3 hF3 => ?_
        refine sqSkip hF3 (unwantedG hF3 rfl rfl rfl rfl rfl) rfl (by decide) fun a4 hF4 => ?_
        refine sqSkip hF4 (unwantedG hF4 rfl rfl rfl rfl rfl) rfl (by decide) fun a5 hF5 => ?_
        refine sqSkip hF5 (unwantedG hF5 rfl rfl rfl rfl rfl) rfl (by decide) fun a6 hF6 => ?_
        refine sqSkip hF6 (unwantedG hF6 rfl rfl rfl rfl rfl) rfl (by decide) fun a7 hF7 => ?_
        refine sq (v := (.bool false)) hF7 (wantedS rfl) (run_pick rfl (hF7.ev 45 rfl) (hF7.ev 49 rfl) rfl) rfl (by decide) fun a8 hF8 => ?_
        refine sq (v := (.bool false)) hF8 (wantedS rfl) (run_mv rfl (hF8.ev 50 rfl)) rfl (by decide) fun a9 hF9 => ?_
        refine sqSkip hF9 (unwantedG hF9 rfl rfl rfl rfl rfl) rfl (by decide) fun a10 hF10 => ?_
        refine sqSkip hF10 (unwantedG hF10 rfl rfl rfl rfl rfl) rfl (by decide) fun a11 hF11 => ?_
        refine sqSkip hF11 (unwantedG hF11 rfl rfl rfl rfl rfl) rfl (by decide) fun a12 hF12 => ?_
        refine sq (v := (.bool false)) hF12 (wantedS rfl) (run_pick rfl (hF12.ev 51 rfl) (hF12.ev 54 rfl) rfl) rfl (by decide) fun a13 hF13 => ?_
        refine sqEnd ?_
        clear hF0 hF1 hF2 hF3 hF4 hF5 hF6 hF7 hF8 hF9 hF10 hF11 hF12
        refine nx ?_
        refine wp_cond_false (hF13.ev 55 rfl) ?_
        refine wp_exit ?_
        refine nxExit ?_
        refine nxExit ?_
        refine bkHere ?_
        refine nx ?_
        refine wp_seq ?_
        refine wp_region_lit ?_
        refine sq (v := (.int .i64 (x12 : Int))) hF13 (wantedS rfl) (run_mv rfl (hF13.ev 12 rfl)) rfl (by decide) fun a14 hF14 => ?_
        refine sq (v := (.int .i64 (x13 : Int))) hF14 (wantedS rfl) (run_mv rfl (hF14.ev 13 rfl)) rfl (by decide) fun a15 hF15 => ?_
        refine sq (v := (.int .i64 (x12 : Int))) hF15 (wantedS rfl) (run_as rfl (hF15.ev 91 rfl)) rfl (by decide) fun a16 hF16 => ?_
        refine sq (v := (.int .i64 (x13 : Int))) hF16 (wantedS rfl) (run_as rfl (hF16.ev 92 rfl)) rfl (by decide) fun a17 hF17 => ?_
        refine sqEnd ?_
        clear hF13 hF14 hF15 hF16
        refine nx ?_
        refine wp_ret ?_
        exact ret2 hF17 rfl rfl rfl ⟨by rw [hres], hM0.below⟩
      | some j =>
        rw [hlq, show encS (some j) = (j : Int) from rfl] at hF0
        obtain ⟨hjm, hjK, hbt⟩ := lastS_some hlq
        have hjp : j < p := by omega
        by_cases h1 : p - j ≤ 65535
        · by_cases h2 : x12 < mo
          · have hto := best4_to (s := s) (p := p) hjm hq (fun i h3 h4 => by rw [hK]; exact hbt i h3 h4)
            have hone := best4_one s p j hjp
            rw [hto, hb4] at hone
            simp only at hone
            have hzj : zs[j]? = some (encS (lastS s K j)) := by rw [hz j hjp (by omega), hjK]
            obtain ⟨n, hn⟩ : ∃ n, sameS s p (p - j) = n := ⟨_, rfl⟩
            have hn4 : 4 ≤ n := by rw [← hn]; exact same_ge4 hjp (by omega) (by rw [hjK, hK])
            have hnm : n ≤ mo := by rw [← hn, hmo]; exact sameS_le _ _ _
            rw [hn] at hone
            by_cases h3 : (bt s (j + x12)).toNat = (bt s (p + x12)).toNat
            · by_cases h5 : x12 < n
              · skip
                refine wp_seq ?_
                refine wp_seq ?_
                refine wp_region_lit ?_
                refine sq (v := (.int .i64 (j : Int))) hF0 (wantedS rfl) (run_mv rfl (hF0.ev 8 rfl)) rfl (by decide) fun a1 hF1 => ?_
                refine sq (v := (.bool true)) hF1 (wantedS rfl) (run_geq rfl (hF1.ev 43 rfl) rfl (decide_eq_true (by omega))) rfl (by decide) fun a2 hF2 => ?_
                refine sq (v := (.bool true)) hF2 (wantedS rfl) (run_mv rfl (hF2.ev 44 rfl)) rfl (by decide) fun a3 hF3 => ?_
                refine sq (v := (.int .i64 (p : Int))) hF3 (wantedG hF3 rfl rfl rfl rfl rfl) (run_mv rfl (hF3.ev 1 rfl)) rfl (by decide) fun a4 hF4 => ?_
                refine sq (v := (.int .i64 (j : Int))) hF4 (wantedG hF4 rfl rfl rfl rfl rfl) (run_mv rfl (hF4.ev 8 rfl)) rfl (by decide) fun a5 hF5 => ?_
                refine sq (v := (.int .i64 ((p - j : Nat) : Int))) hF5 (wantedG hF5 rfl rfl rfl rfl rfl) (run_sub (r := ((p - j : Nat) : Int)) rfl (hF5.ev 46 rfl) (hF5.ev 47 rfl) (by rw [IntKind.wrap_i64]; omega)) rfl (by decide) fun a6 hF6 => ?_
                refine sq (v := (.bool true)) hF6 (wantedG hF6 rfl rfl rfl rfl rfl) (run_leq rfl (hF6.ev 48 rfl) rfl (decide_eq_true (by omega))) rfl (by decide) fun a7 hF7 => ?_
                refine sq (v := (.bool true)) hF7 (wantedS rfl) (run_pick rfl (hF7.ev 45 rfl) (hF7.ev 49 rfl) rfl) rfl (by decide) fun a8 hF8 => ?_
                refine sq (v := (.bool true)) hF8 (wantedS rfl) (run_mv rfl (hF8.ev 50 rfl)) rfl (by decide) fun a9 hF9 => ?_
                refine sq (v := (.int .i64 (x12 : Int))) hF9 (wantedG hF9 rfl rfl rfl rfl rfl) (run_mv rfl (hF9.ev 12 rfl)) rfl (by decide) fun a10 hF10 => ?_
                refine sq (v := (.int .i64 (mo : Int))) hF10 (wantedG hF10 rfl rfl rfl rfl rfl) (run_ld1 rfl (hF10.ev 10 rfl) (hM0.at 0 rfl) (by kernel_rfl)) rfl (by decide) fun a11 hF11 => ?_
                refine sq (v := (.bool true)) hF11 (wantedG hF11 rfl rfl rfl rfl rfl) (run_lss rfl (hF11.ev 52 rfl) (hF11.ev 53 rfl) (decide_eq_true (by omega))) rfl (by decide) fun a12 hF12 => ?_
                refine sq (v := (.bool true)) hF12 (wantedS rfl) (run_pick rfl (hF12.ev 51 rfl) (hF12.ev 54 rfl) rfl) rfl (by decide) fun a13 hF13 => ?_
                refine sqEnd ?_
                clear hF0 hF1 hF2 hF3 hF4 hF5 hF6 hF7 hF8 hF9 hF10 hF11 hF12
                refine nx ?_
                refine wp_cond_true (hF13.ev 55 rfl) ?_
                refine wp_skip ?_
                refine nx ?_
                refine wp_seq ?_
                refine wp_block ?_
                refine wp_seq ?_
                refine wp_seq ?_
                obtain ⟨KL, hKL⟩ : ∃ KL, KL = [kval (.pointer (some ⟨gp, 0, none⟩)), kval (.pointer (some ⟨gp, 0, none⟩)), kval (.pointer (some ⟨gp, 0, none⟩)), kval (.string ⟨s.toArray⟩), kval (.int .i64 (j : Int)), kval (.int .i64 (x12 : Int)), kval (.int .i64 ((j + x12 : Nat) : Int)), kval (.int .u8 ((bt s (j + x12)).toNat : Int)), kval (.pointer (some ⟨gp, 0, none⟩)), kval (.pointer (some ⟨gp, 0, none⟩)), kval (.pointer (some ⟨gp, 0, none⟩)), kval (.string ⟨s.toArray⟩), kval (.int .i64 (p : Int)), kval (.int .i64 (x12 : Int)), kval (.int .i64 ((p + x12 : Nat) : Int)), kval (.int .u8 ((bt s (p + x12)).toNat : Int)), kval (.bool false)] := ⟨_, rfl⟩
                have K0 : KL.getD 0 kany = kval (.pointer (some ⟨gp, 0, none⟩)) := by rw [hKL]; rfl
                have K1 : KL.getD 1 kany = kval (.pointer (some ⟨gp, 0, none⟩)) := by rw [hKL]; rfl
                have K2 : KL.getD 2 kany = kval (.pointer (some ⟨gp, 0, none⟩)) := by rw [hKL]; rfl
                have K3 : KL.getD 3 kany = kval (.string ⟨s.toArray⟩) := by rw [hKL]; rfl
                have K4 : KL.getD 4 kany = kval (.int .i64 (j : Int)) := by rw [hKL]; rfl
                have K5 : KL.getD 5 kany = kval (.int .i64 (x12 : Int)) := by rw [hKL]; rfl
                have K6 : KL.getD 6 kany = kval (.int .i64 ((j + x12 : Nat) : Int)) := by rw [hKL]; rfl
                have K7 : KL.getD 7 kany = kval (.int .u8 ((bt s (j + x12)).toNat : Int)) := by rw [hKL]; rfl
                have K8 : KL.getD 8 kany = kval (.pointer (some ⟨gp, 0, none⟩)) := by rw [hKL]; rfl
                have K9 : KL.getD 9 kany = kval (.pointer (some ⟨gp, 0, none⟩)) := by rw [hKL]; rfl
                have K10 : KL.getD 10 kany = kval (.pointer (some ⟨gp, 0, none⟩)) := by rw [hKL]; rfl
                have K11 : KL.getD 11 kany = kval (.string ⟨s.toArray⟩) := by rw [hKL]; rfl
                have K12 : KL.getD 12 kany = kval (.int .i64 (p : Int)) := by rw [hKL]; rfl
                have K13 : KL.getD 13 kany = kval (.int .i64 (x12 : Int)) := by rw [hKL]; rfl
                have K14 : KL.getD 14 kany = kval (.int .i64 ((p + x12 : Nat) : Int)) := by rw [hKL]; rfl
                have K15 : KL.getD 15 kany = kval (.int .u8 ((bt s (p + x12)).toNat : Int)) := by rw [hKL]; rfl
                have K16 : KL.getD 16 kany = kval (.bool false) := by rw [hKL]; rfl
                clear hKL
                refine wp_region_kd 93 (by kernel_rfl) (by kernel_rfl) (by kernel_rfl) hF13.size KL ?_ ?_
                · refine ⟨?_, ?_, ?_, ?_, ?_, ?_, ?_, ?_, ?_, ?_, ?_, ?_, ?_, ?_, ?_, ?_, ?_, trivial⟩
                  · refine asks_mk fun a W hS hh hd => ⟨wanted_yes rfl, ?_⟩
                    exact giv_run (run_ld1 rfl (eval_tmp (hh 2 _ rfl (hF13.at 2 rfl))) ((hM0.grow hS).at 1 rfl) (by kernel_rfl)) K0
                  · refine asks_mk fun a W hS hh hd => ⟨wanted_yes rfl, ?_⟩
                    exact giv_run (run_nilp rfl (eval_tmp (hd.val (j := 0) (s := 63) (by kernel_rfl) K0))) K1
                  · refine asks_mk fun a W hS hh hd => ⟨wanted_yes rfl, ?_⟩
                    exact giv_run (run_fldA (m := 1) (s := 0) rfl (eval_tmp (hd.val (j := 1) (s := 64) (by kernel_rfl) K1)) Tryd.underlying80 rfl rfl (by kernel_rfl) (by decide)) K2
                  · refine asks_mk fun a W hS hh hd => ⟨wanted_yes rfl, ?_⟩
                    exact giv_run (run_ldF rfl (eval_tmp (hd.val (j := 2) (s := 65) (by kernel_rfl) K2)) (hB.below (hM0.grow hS).below hB.lt) rfl (by kernel_rfl)) K3
                  · refine asks_mk fun a W hS hh hd => ⟨wanted_yes rfl, ?_⟩
                    exact giv_run (run_mv rfl (eval_tmp (hh 8 _ rfl (hF13.at 8 rfl)))) K4
                  · refine asks_mk fun a W hS hh hd => ⟨wanted_yes rfl, ?_⟩
                    exact giv_run (run_mv rfl (eval_tmp (hh 12 _ rfl (hF13.at 12 rfl)))) K5
                  · refine asks_mk fun a W hS hh hd => ⟨wanted_yes rfl, ?_⟩
                    exact giv_run (run_add (r := ((j + x12 : Nat) : Int)) rfl (eval_tmp (hd.val (j := 4) (s := 67) (by kernel_rfl) K4)) (eval_tmp (hd.val (j := 5) (s := 68) (by kernel_rfl) K5)) (by rw [IntKind.wrap_i64]; omega)) K6
                  · refine asks_mk fun a W hS hh hd => ⟨wanted_yes rfl, ?_⟩
                    exact giv_run (run_sAt (n := (j + x12)) rfl (eval_tmp (hd.val (j := 3) (s := 66) (by kernel_rfl) K3)) (eval_tmp (hd.val (j := 6) (s := 69) (by kernel_rfl) K6)) Tryd.underlying9 rfl (by omega)) K7
                  · refine asks_mk fun a W hS hh hd => ⟨wanted_yes rfl, ?_⟩
                    exact giv_run (run_ld1 rfl (eval_tmp (hh 2 _ rfl (hF13.at 2 rfl))) ((hM0.grow hS).at 1 rfl) (by kernel_rfl)) K8
                  · refine asks_mk fun a W hS hh hd => ⟨wanted_yes rfl, ?_⟩
                    exact giv_run (run_nilp rfl (eval_tmp (hd.val (j := 8) (s := 71) (by kernel_rfl) K8))) K9
                  · refine asks_mk fun a W hS hh hd => ⟨wanted_yes rfl, ?_⟩
                    exact giv_run (run_fldA (m := 1) (s := 0) rfl (eval_tmp (hd.val (j := 9) (s := 72) (by kernel_rfl) K9)) Tryd.underlying80 rfl rfl (by kernel_rfl) (by decide)) K10
                  · refine asks_mk fun a W hS hh hd => ⟨wanted_yes rfl, ?_⟩
                    exact giv_run (run_ldF rfl (eval_tmp (hd.val (j := 10) (s := 73) (by kernel_rfl) K10)) (hB.below (hM0.grow hS).below hB.lt) rfl (by kernel_rfl)) K11
                  · refine asks_mk fun a W hS hh hd => ⟨wanted_yes rfl, ?_⟩
                    exact giv_run (run_mv rfl (eval_tmp (hh 1 _ rfl (hF13.at 1 rfl)))) K12
                  · refine asks_mk fun a W hS hh hd => ⟨wanted_yes rfl, ?_⟩
                    exact giv_run (run_mv rfl (eval_tmp (hh 12 _ rfl (hF13.at 12 rfl)))) K13
                  · refine asks_mk fun a W hS hh hd => ⟨wanted_yes rfl, ?_⟩
                    exact giv_run (run_add (r := ((p + x12 : Nat) : Int)) rfl (eval_tmp (hd.val (j := 12) (s := 75) (by kernel_rfl) K12)) (eval_tmp (hd.val (j := 13) (s := 76) (by kernel_rfl) K13)) (by rw [IntKind.wrap_i64]; omega)) K14
                  · refine asks_mk fun a W hS hh hd => ⟨wanted_yes rfl, ?_⟩
                    exact giv_run (run_sAt (n := (p + x12)) rfl (eval_tmp (hd.val (j := 11) (s := 74) (by kernel_rfl) K11)) (eval_tmp (hd.val (j := 14) (s := 77) (by kernel_rfl) K14)) Tryd.underlying9 rfl (by omega)) K15
                  · refine asks_mk fun a W hS hh hd => ⟨wanted_yes rfl, ?_⟩
                    exact giv_run (run_nei rfl (eval_tmp (hd.val (j := 7) (s := 70) (by kernel_rfl) K7)) (eval_tmp (hd.val (j := 15) (s := 78) (by kernel_rfl) K15)) (bne_eq_false_iff_eq.2 (by omega))) K16
                · intro a14 w2 hb2 hK
                  have e0 := hK.val (i := 0) (s := 63) (by kernel_rfl) K0
                  have e1 := hK.val (i := 1) (s := 64) (by kernel_rfl) K1
                  have e2 := hK.val (i := 2) (s := 65) (by kernel_rfl) K2
                  have e3 := hK.val (i := 3) (s := 66) (by kernel_rfl) K3
                  have e4 := hK.val (i := 4) (s := 67) (by kernel_rfl) K4
                  have e5 := hK.val (i := 5) (s := 68) (by kernel_rfl) K5
                  have e6 := hK.val (i := 6) (s := 69) (by kernel_rfl) K6
                  have e7 := hK.val (i := 7) (s := 70) (by kernel_rfl) K7
                  have e8 := hK.val (i := 8) (s := 71) (by kernel_rfl) K8
                  have e9 := hK.val (i := 9) (s := 72) (by kernel_rfl) K9
                  have e10 := hK.val (i := 10) (s := 73) (by kernel_rfl) K10
                  have e11 := hK.val (i := 11) (s := 74) (by kernel_rfl) K11
                  have e12 := hK.val (i := 12) (s := 75) (by kernel_rfl) K12
                  have e13 := hK.val (i := 13) (s := 76) (by kernel_rfl) K13
                  have e14 := hK.val (i := 14) (s := 77) (by kernel_rfl) K14
                  have e15 := hK.val (i := 15) (s := 78) (by kernel_rfl) K15
                  have e16 := hK.val (i := 16) (s := 79) (by kernel_rfl) K16
                  have hF14 : Fr a14 93 [(1, (.int .i64 (p : Int))), (2, (.pointer (some ⟨g0, 0, none⟩))), (8, (.int .i64 (j : Int))), (10, (.pointer (some ⟨g2, 0, none⟩))), (11, (.func (.func 75) #[] #[(.pointer (some ⟨g2, 0, none⟩)), (.pointer (some ⟨g0, 0, none⟩))])), (12, (.int .i64 (x12 : Int))), (13, (.int .i64 (x13 : Int))), (43, (.int .i64 (j : Int))), (44, (.bool true)), (45, (.bool true)), (46, (.int .i64 (p : Int))), (47, (.int .i64 (j : Int))), (48, (.int .i64 ((p - j : Nat) : Int))), (49, (.bool true)), (50, (.bool true)), (51, (.bool true)), (52, (.int .i64 (x12 : Int))), (53, (.int .i64 (mo : Int))), (54, (.bool true)), (55, (.bool true)), (79, (.bool false))] := (hK.fr hF13 [(.pointer (some ⟨gp, 0, none⟩)), (.pointer (some ⟨gp, 0, none⟩)), (.pointer (some ⟨gp, 0, none⟩)), (.string ⟨s.toArray⟩), (.int .i64 (j : Int)), (.int .i64 (x12 : Int)), (.int .i64 ((j + x12 : Nat) : Int)), (.int .u8 ((bt s (j + x12)).toNat : Int)), (.pointer (some ⟨gp, 0, none⟩)), (.pointer (some ⟨gp, 0, none⟩)), (.pointer (some ⟨gp, 0, none⟩)), (.string ⟨s.toArray⟩), (.int .i64 (p : Int)), (.int .i64 (x12 : Int)), (.int .i64 ((p + x12 : Nat) : Int)), (.int .u8 ((bt s (p + x12)).toNat : Int)), (.bool false)] ⟨e0, e1, e2, e3, e4, e5, e6, e7, e8, e9, e10, e11, e12, e13, e14, e15, e16, trivial⟩).sub ⟨rfl, rfl, rfl, rfl, rfl, rfl, rfl, rfl, rfl, rfl, rfl, rfl, rfl, rfl, rfl, rfl, rfl, rfl, rfl, rfl, rfl, trivial⟩
                  have hM1 := hM0.grow hb2
                  clear hK K0 e0 K1 e1 K2 e2 K3 e3 K4 e4 K5 e5 K6 e6 K7 e7 K8 e8 K9 e9 K10 e10 K11 e11 K12 e12 K13 e13 K14 e14 K15 e15 K16 e16
                  clear hF13 hM0
                  refine nx ?_
                  refine wp_cond_false (hF14.ev 79 rfl) ?_
                  refine wp_skip ?_
                  refine nx ?_
                  refine wp_seq ?_
                  refine wp_region_lit ?_
                  refine sq (v := (.func (.func 75) #[] #[(.pointer (some ⟨g2, 0, none⟩)), (.pointer (some ⟨g0, 0, none⟩))])) hF14 (wantedS rfl) (run_mv rfl (hF14.ev 11 rfl)) rfl (by decide) fun a15 hF15 => ?_
                  refine sq (v := (.int .i64 (j : Int))) hF15 (wantedS rfl) (run_mv rfl (hF15.ev 8 rfl)) rfl (by decide) fun a16 hF16 => ?_
                  refine sq (v := (.int .i64 (p : Int))) hF16 (wantedS rfl) (run_mv rfl (hF16.ev 1 rfl)) rfl (by decide) fun a17 hF17 => ?_
                  refine sqC (v := (.int .i64 (n : Int))) hF17 hM1 (wantedS rfl) (run_callF rfl (hF17.ev 80 rfl) Tryd.func75 (by kernel_rfl) rfl (mapE2 (hF17.ev 81 rfl) (hF17.ev 82 rfl)) rfl) rfl (by decide) ((by rw [← hn]; exact zsame_any s gp gm ga g2 g0 p j mo _ _ w2 (hB.below hM1.below hB.lt) (hM1.at 0 rfl) (hM1.at 1 rfl) hs hjp hp hmo)) fun a18 w3 hb3 hF18 hM2 => ?_
                  refine sq (v := (.int .i64 (n : Int))) hF18 (wantedS rfl) (run_as rfl (hF18.ev 83 rfl)) rfl (by decide) fun a19 hF19 => ?_
                  refine sqEnd ?_
                  clear hF14 hF15 hF16 hF17 hF18 hM1
                  refine nx ?_
                  refine wp_seq ?_
                  refine wp_region_lit ?_
                  refine sq (v := (.int .i64 (n : Int))) hF19 (wantedS rfl) (run_mv rfl (hF19.ev 14 rfl)) rfl (by decide) fun a20 hF20 => ?_
                  refine sq (v := (.int .i64 (x12 : Int))) hF20 (wantedS rfl) (run_mv rfl (hF20.ev 12 rfl)) rfl (by decide) fun a21 hF21 => ?_
                  refine sq (v := (.bool true)) hF21 (wantedS rfl) (run_gtr rfl (hF21.ev 84 rfl) (hF21.ev 85 rfl) (decide_eq_true (by omega))) rfl (by decide) fun a22 hF22 => ?_
                  refine sqEnd ?_
                  clear hF19 hF20 hF21
                  refine nx ?_
                  refine wp_cond_true (hF22.ev 86 rfl) ?_
                  refine wp_region_lit ?_
                  refine sq (v := (.int .i64 (n : Int))) hF22 (wantedS rfl) (run_mv rfl (hF22.ev 14 rfl)) rfl (by decide) fun a23 hF23 => ?_
                  refine sq (v := (.int .i64 (p : Int))) hF23 (wantedS rfl) (run_mv rfl (hF23.ev 1 rfl)) rfl (by decide) fun a24 hF24 => ?_
                  refine sq (v := (.int .i64 (j : Int))) hF24 (wantedS rfl) (run_mv rfl (hF24.ev 8 rfl)) rfl (by decide) fun a25 hF25 => ?_
                  refine sq (v := (.int .i64 ((p - j : Nat) : Int))) hF25 (wantedS rfl) (run_sub (r := ((p - j : Nat) : Int)) rfl (hF25.ev 88 rfl) (hF25.ev 89 rfl) (by rw [IntKind.wrap_i64]; omega)) rfl (by decide) fun a26 hF26 => ?_
                  refine sq (v := (.int .i64 (n : Int))) hF26 (wantedS rfl) (run_as rfl (hF26.ev 87 rfl)) rfl (by decide) fun a27 hF27 => ?_
                  refine sq (v := (.int .i64 ((p - j : Nat) : Int))) hF27 (wantedS rfl) (run_as rfl (hF27.ev 90 rfl)) rfl (by decide) fun a28 hF28 => ?_
                  refine sqEnd ?_
                  clear hF22 hF23 hF24 hF25 hF26 hF27
                  refine bkEnd ?_
                  refine nx ?_
                  refine wp_region_lit ?_
                  refine sq (v := (.pointer (some ⟨gp, 0, none⟩))) hF28 (wantedS rfl) (run_ld1 rfl (hF28.ev 2 rfl) (hM2.at 1 rfl) (by kernel_rfl)) rfl (by decide) fun a29 hF29 => ?_
                  refine sq (v := (.pointer (some ⟨gp, 0, none⟩))) hF29 (wantedS rfl) (run_nilp rfl (hF29.ev 56 rfl)) rfl (by decide) fun a30 hF30 => ?_
                  refine sq (v := (.pointer (some ⟨gp, 2, none⟩))) hF30 (wantedS rfl) (run_fldA (m := 1) (s := 2) rfl (hF30.ev 57 rfl) Tryd.underlying80 rfl rfl (by kernel_rfl) (by decide)) rfl (by decide) fun a31 hF31 => ?_
                  refine sq (v := (.slice (some ⟨ga, 0, none⟩) s.length s.length)) hF31 (wantedS rfl) (run_ldF rfl (hF31.ev 58 rfl) (hB.below hM2.below hB.lt) rfl (by kernel_rfl)) rfl (by decide) fun a32 hF32 => ?_
                  refine sq (v := (.int .i64 (j : Int))) hF32 (wantedS rfl) (run_mv rfl (hF32.ev 8 rfl)) rfl (by decide) fun a33 hF33 => ?_
                  refine sq (v := (.pointer (some ⟨ga, j, none⟩))) hF33 (wantedS rfl) (run_idxI (i := j) rfl (hF33.ev 59 rfl) (hF33.ev 60 rfl) rfl (by omega)) rfl (by decide) fun a34 hF34 => ?_
                  refine sq (v := (.int .i64 (encS (lastS s K j)))) hF34 (wantedS rfl) (run_ldI rfl (hF34.ev 61 rfl) (hA.below hM2.below hA.lt) hzj) rfl (by decide) fun a35 hF35 => ?_
                  refine sq (v := (.int .i64 (encS (lastS s K j)))) hF35 (wantedS rfl) (run_as rfl (hF35.ev 62 rfl)) rfl (by decide) fun a36 hF36 => ?_
                  refine sqEnd ?_
                  clear hF28 hF29 hF30 hF31 hF32 hF33 hF34 hF35
                  refine nx ?_
                  exact ⟨_, hjm, j, n, p - j, by omega, rfl, by omega, by rw [hone, if_pos ⟨h5, hn4⟩], hF36.sub ⟨rfl, rfl, rfl, rfl, rfl, rfl, rfl, trivial⟩, hM2⟩
              · skip
                refine wp_seq ?_
                refine wp_seq ?_
                refine wp_region_lit ?_
                refine sq (v := (.int .i64 (j : Int))) hF0 (wantedS rfl) (run_mv rfl (hF0.ev 8 rfl)) rfl (by decide) fun a1 hF1 => ?_
                refine sq (v := (.bool true)) hF1 (wantedS rfl) (run_geq rfl (hF1.ev 43 rfl) rfl (decide_eq_true (by omega))) rfl (by decide) fun a2 hF2 => ?_
                refine sq (v := (.bool true)) hF2 (wantedS rfl) (run_mv rfl (hF2.ev 44 rfl)) rfl (by decide) fun a3 hF3 => ?_
                refine sq (v := (.int .i64 (p : Int))) hF3 (wantedG hF3 rfl rfl rfl rfl rfl) (run_mv rfl (hF3.ev 1 rfl)) rfl (by decide) fun a4 hF4 => ?_
                refine sq (v := (.int .i64 (j : Int))) hF4 (wantedG hF4 rfl rfl rfl rfl rfl) (run_mv rfl (hF4.ev 8 rfl)) rfl (by decide) fun a5 hF5 => ?_
                refine sq (v := (.int .i64 ((p - j : Nat) : Int))) hF5 (wantedG hF5 rfl rfl rfl rfl rfl) (run_sub (r := ((p - j : Nat) : Int)) rfl (hF5.ev 46 rfl) (hF5.ev 47 rfl) (by rw [IntKind.wrap_i64]; omega)) rfl (by decide) fun a6 hF6 => ?_
                refine sq (v := (.bool true)) hF6 (wantedG hF6 rfl rfl rfl rfl rfl) (run_leq rfl (hF6.ev 48 rfl) rfl (decide_eq_true (by omega))) rfl (by decide) fun a7 hF7 => ?_
                refine sq (v := (.bool true)) hF7 (wantedS rfl) (run_pick rfl (hF7.ev 45 rfl) (hF7.ev 49 rfl) rfl) rfl (by decide) fun a8 hF8 => ?_
                refine sq (v := (.bool true)) hF8 (wantedS rfl) (run_mv rfl (hF8.ev 50 rfl)) rfl (by decide) fun a9 hF9 => ?_
                refine sq (v := (.int .i64 (x12 : Int))) hF9 (wantedG hF9 rfl rfl rfl rfl rfl) (run_mv rfl (hF9.ev 12 rfl)) rfl (by decide) fun a10 hF10 => ?_
                refine sq (v := (.int .i64 (mo : Int))) hF10 (wantedG hF10 rfl rfl rfl rfl rfl) (run_ld1 rfl (hF10.ev 10 rfl) (hM0.at 0 rfl) (by kernel_rfl)) rfl (by decide) fun a11 hF11 => ?_
                refine sq (v := (.bool true)) hF11 (wantedG hF11 rfl rfl rfl rfl rfl) (run_lss rfl (hF11.ev 52 rfl) (hF11.ev 53 rfl) (decide_eq_true (by omega))) rfl (by decide) fun a12 hF12 => ?_
                refine sq (v := (.bool true)) hF12 (wantedS rfl) (run_pick rfl (hF12.ev 51 rfl) (hF12.ev 54 rfl) rfl) rfl (by decide) fun a13 hF13 => ?_
                refine sqEnd ?_
                clear hF0 hF1 hF2 hF3 hF4 hF5 hF6 hF7 hF8 hF9 hF10 hF11 hF12
                refine nx ?_
                refine wp_cond_true (hF13.ev 55 rfl) ?_
                refine wp_skip ?_
                refine nx ?_
                refine wp_seq ?_
                refine wp_block ?_
                refine wp_seq ?_
                refine wp_seq ?_
                obtain ⟨KL, hKL⟩ : ∃ KL, KL = [kval (.pointer (some ⟨gp, 0, none⟩)), kval (.pointer (some ⟨gp, 0, none⟩)), kval (.pointer (some ⟨gp, 0, none⟩)), kval (.string ⟨s.toArray⟩), kval (.int .i64 (j : Int)), kval (.int .i64 (x12 : Int)), kval (.int .i64 ((j + x12 : Nat) : Int)), kval (.int .u8 ((bt s (j + x12)).toNat : Int)), kval (.pointer (some ⟨gp, 0, none⟩)), kval (.pointer (some ⟨gp, 0, none⟩)), kval (.pointer (some ⟨gp, 0, none⟩)), kval (.string ⟨s.toArray⟩), kval (.int .i64 (p : Int)), kval (.int .i64 (x12 : Int)), kval (.int .i64 ((p + x12 : Nat) : Int)), kval (.int .u8 ((bt s (p + x12)).toNat : Int)), kval (.bool false)] := ⟨_, rfl⟩
                have K0 : KL.getD 0 kany = kval (.pointer (some ⟨gp, 0, none⟩)) := by rw [hKL]; rfl
                have K1 : KL.getD 1 kany = kval (.pointer (some ⟨gp, 0, none⟩)) := by rw [hKL]; rfl
                have K2 : KL.getD 2 kany = kval (.pointer (some ⟨gp, 0, none⟩)) := by rw [hKL]; rfl
                have K3 : KL.getD 3 kany = kval (.string ⟨s.toArray⟩) := by rw [hKL]; rfl
                have K4 : KL.getD 4 kany = kval (.int .i64 (j : Int)) := by rw [hKL]; rfl
                have K5 : KL.getD 5 kany = kval (.int .i64 (x12 : Int)) := by rw [hKL]; rfl
                have K6 : KL.getD 6 kany = kval (.int .i64 ((j + x12 : Nat) : Int)) := by rw [hKL]; rfl
                have K7 : KL.getD 7 kany = kval (.int .u8 ((bt s (j + x12)).toNat : Int)) := by rw [hKL]; rfl
                have K8 : KL.getD 8 kany = kval (.pointer (some ⟨gp, 0, none⟩)) := by rw [hKL]; rfl
                have K9 : KL.getD 9 kany = kval (.pointer (some ⟨gp, 0, none⟩)) := by rw [hKL]; rfl
                have K10 : KL.getD 10 kany = kval (.pointer (some ⟨gp, 0, none⟩)) := by rw [hKL]; rfl
                have K11 : KL.getD 11 kany = kval (.string ⟨s.toArray⟩) := by rw [hKL]; rfl
                have K12 : KL.getD 12 kany = kval (.int .i64 (p : Int)) := by rw [hKL]; rfl
                have K13 : KL.getD 13 kany = kval (.int .i64 (x12 : Int)) := by rw [hKL]; rfl
                have K14 : KL.getD 14 kany = kval (.int .i64 ((p + x12 : Nat) : Int)) := by rw [hKL]; rfl
                have K15 : KL.getD 15 kany = kval (.int .u8 ((bt s (p + x12)).toNat : Int)) := by rw [hKL]; rfl
                have K16 : KL.getD 16 kany = kval (.bool false) := by rw [hKL]; rfl
                clear hKL
                refine wp_region_kd 93 (by kernel_rfl) (by kernel_rfl) (by kernel_rfl) hF13.size KL ?_ ?_
                · refine ⟨?_, ?_, ?_, ?_, ?_, ?_, ?_, ?_, ?_, ?_, ?_, ?_, ?_, ?_, ?_, ?_, ?_, trivial⟩
                  · refine asks_mk fun a W hS hh hd => ⟨wanted_yes rfl, ?_⟩
                    exact giv_run (run_ld1 rfl (eval_tmp (hh 2 _ rfl (hF13.at 2 rfl))) ((hM0.grow hS).at 1 rfl) (by kernel_rfl)) K0
                  · refine asks_mk fun a W hS hh hd => ⟨wanted_yes rfl, ?_⟩
                    exact giv_run (run_nilp rfl (eval_tmp (hd.val (j := 0) (s := 63) (by kernel_rfl) K0))) K1
                  · refine asks_mk fun a W hS hh hd => ⟨wanted_yes rfl, ?_⟩
                    exact giv_run (run_fldA (m := 1) (s := 0) rfl (eval_tmp (hd.val (j := 1) (s := 64) (by kernel_rfl) K1)) Tryd.underlying80 rfl rfl (by kernel_rfl) (by decide)) K2
                  · refine asks_mk fun a W hS hh hd => ⟨wanted_yes rfl, ?_⟩
                    exact giv_run (run_ldF rfl (eval_tmp (hd.val (j := 2) (s := 65) (by kernel_rfl) K2)) (hB.below (hM0.grow hS).below hB.lt) rfl (by kernel_rfl)) K3
                  · refine asks_mk fun a W hS hh hd => ⟨wanted_yes rfl, ?_⟩
                    exact giv_run (run_mv rfl (eval_tmp (hh 8 _ rfl (hF13.at 8 rfl)))) K4
                  · refine asks_mk fun a W hS hh hd => ⟨wanted_yes rfl, ?_⟩
                    exact giv_run (run_mv rfl (eval_tmp (hh 12 _ rfl (hF13.at 12 rfl)))) K5
                  · refine asks_mk fun a W hS hh hd => ⟨wanted_yes rfl, ?_⟩
                    exact giv_run (run_add (r := ((j + x12 : Nat) : Int)) rfl (eval_tmp (hd.val (j := 4) (s := 67) (by kernel_rfl) K4)) (eval_tmp (hd.val (j := 5) (s := 68) (by kernel_rfl) K5)) (by rw [IntKind.wrap_i64]; omega)) K6
                  · refine asks_mk fun a W hS hh hd => ⟨wanted_yes rfl, ?_⟩
                    exact giv_run (run_sAt (n := (j + x12)) rfl (eval_tmp (hd.val (j := 3) (s := 66) (by kernel_rfl) K3)) (eval_tmp (hd.val (j := 6) (s := 69) (by kernel_rfl) K6)) Tryd.underlying9 rfl (by omega)) K7
                  · refine asks_mk fun a W hS hh hd => ⟨wanted_yes rfl, ?_⟩
                    exact giv_run (run_ld1 rfl (eval_tmp (hh 2 _ rfl (hF13.at 2 rfl))) ((hM0.grow hS).at 1 rfl) (by kernel_rfl)) K8
                  · refine asks_mk fun a W hS hh hd => ⟨wanted_yes rfl, ?_⟩
                    exact giv_run (run_nilp rfl (eval_tmp (hd.val (j := 8) (s := 71) (by kernel_rfl) K8))) K9
                  · refine asks_mk fun a W hS hh hd => ⟨wanted_yes rfl, ?_⟩
                    exact giv_run (run_fldA (m := 1) (s := 0) rfl (eval_tmp (hd.val (j := 9) (s := 72) (by kernel_rfl) K9)) Tryd.underlying80 rfl rfl (by kernel_rfl) (by decide)) K10
                  · refine asks_mk fun a W hS hh hd => ⟨wanted_yes rfl, ?_⟩
                    exact giv_run (run_ldF rfl (eval_tmp (hd.val (j := 10) (s := 73) (by kernel_rfl) K10)) (hB.below (hM0.grow hS).below hB.lt) rfl (by kernel_rfl)) K11
                  · refine asks_mk fun a W hS hh hd => ⟨wanted_yes rfl, ?_⟩
                    exact giv_run (run_mv rfl (eval_tmp (hh 1 _ rfl (hF13.at 1 rfl)))) K12
                  · refine asks_mk fun a W hS hh hd => ⟨wanted_yes rfl, ?_⟩
                    exact giv_run (run_mv rfl (eval_tmp (hh 12 _ rfl (hF13.at 12 rfl)))) K13
                  · refine asks_mk fun a W hS hh hd => ⟨wanted_yes rfl, ?_⟩
                    exact giv_run (run_add (r := ((p + x12 : Nat) : Int)) rfl (eval_tmp (hd.val (j := 12) (s := 75) (by kernel_rfl) K12)) (eval_tmp (hd.val (j := 13) (s := 76) (by kernel_rfl) K13)) (by rw [IntKind.wrap_i64]; omega)) K14
                  · refine asks_mk fun a W hS hh hd => ⟨wanted_yes rfl, ?_⟩
                    exact giv_run (run_sAt (n := (p + x12)) rfl (eval_tmp (hd.val (j := 11) (s := 74) (by kernel_rfl) K11)) (eval_tmp (hd.val (j := 14) (s := 77) (by kernel_rfl) K14)) Tryd.underlying9 rfl (by omega)) K15
                  · refine asks_mk fun a W hS hh hd => ⟨wanted_yes rfl, ?_⟩
                    exact giv_run (run_nei rfl (eval_tmp (hd.val (j := 7) (s := 70) (by kernel_rfl) K7)) (eval_tmp (hd.val (j := 15) (s := 78) (by kernel_rfl) K15)) (bne_eq_false_iff_eq.2 (by omega))) K16
                · intro a14 w2 hb2 hK
                  have e0 := hK.val (i := 0) (s := 63) (by kernel_rfl) K0
                  have e1 := hK.val (i := 1) (s := 64) (by kernel_rfl) K1
                  have e2 := hK.val (i := 2) (s := 65) (by kernel_rfl) K2
                  have e3 := hK.val (i := 3) (s := 66) (by kernel_rfl) K3
                  have e4 := hK.val (i := 4) (s := 67) (by kernel_rfl) K4
                  have e5 := hK.val (i := 5) (s := 68) (by kernel_rfl) K5
                  have e6 := hK.val (i := 6) (s := 69) (by kernel_rfl) K6
                  have e7 := hK.val (i := 7) (s := 70) (by kernel_rfl) K7
                  have e8 := hK.val (i := 8) (s := 71) (by kernel_rfl) K8
                  have e9 := hK.val (i := 9) (s := 72) (by kernel_rfl) K9
                  have e10 := hK.val (i := 10) (s := 73) (by kernel_rfl) K10
                  have e11 := hK.val (i := 11) (s := 74) (by kernel_rfl) K11
                  have e12 := hK.val (i := 12) (s := 75) (by kernel_rfl) K12
                  have e13 := hK.val (i := 13) (s := 76) (by kernel_rfl) K13
                  have e14 := hK.val (i := 14) (s := 77) (by kernel_rfl) K14
                  have e15 := hK.val (i := 15) (s := 78) (by kernel_rfl) K15
                  have e16 := hK.val (i := 16) (s := 79) (by kernel_rfl) K16
                  have hF14 : Fr a14 93 [(1, (.int .i64 (p : Int))), (2, (.pointer (some ⟨g0, 0, none⟩))), (8, (.int .i64 (j : Int))), (10, (.pointer (some ⟨g2, 0, none⟩))), (11, (.func (.func 75) #[] #[(.pointer (some ⟨g2, 0, none⟩)), (.pointer (some ⟨g0, 0, none⟩))])), (12, (.int .i64 (x12 : Int))), (13, (.int .i64 (x13 : Int))), (43, (.int .i64 (j : Int))), (44, (.bool true)), (45, (.bool true)), (46, (.int .i64 (p : Int))), (47, (.int .i64 (j : Int))), (48, (.int .i64 ((p - j : Nat) : Int))), (49, (.bool true)), (50, (.bool true)), (51, (.bool true)), (52, (.int .i64 (x12 : Int))), (53, (.int .i64 (mo : Int))), (54, (.bool true)), (55, (.bool true)), (79, (.bool false))] := (hK.fr hF13 [(.pointer (some ⟨gp, 0, none⟩)), (.pointer (some ⟨gp, 0, none⟩)), (.pointer (some ⟨gp, 0, none⟩)), (.string ⟨s.toArray⟩), (.int .i64 (j : Int)), (.int .i64 (x12 : Int)), (.int .i64 ((j + x12 : Nat) : Int)), (.int .u8 ((bt s (j + x12)).toNat : Int)), (.pointer (some ⟨gp, 0, none⟩)), (.pointer (some ⟨gp, 0, none⟩)), (.pointer (some ⟨gp, 0, none⟩)), (.string ⟨s.toArray⟩), (.int .i64 (p : Int)), (.int .i64 (x12 : Int)), (.int .i64 ((p + x12 : Nat) : Int)), (.int .u8 ((bt s (p + x12)).toNat : Int)), (.bool false)] ⟨e0, e1, e2, e3, e4, e5, e6, e7, e8, e9, e10, e11, e12, e13, e14, e15, e16, trivial⟩).sub ⟨rfl, rfl, rfl, rfl, rfl, rfl, rfl, rfl, rfl, rfl, rfl, rfl, rfl, rfl, rfl, rfl, rfl, rfl, rfl, rfl, rfl, trivial⟩
                  have hM1 := hM0.grow hb2
                  clear hK K0 e0 K1 e1 K2 e2 K3 e3 K4 e4 K5 e5 K6 e6 K7 e7 K8 e8 K9 e9 K10 e10 K11 e11 K12 e12 K13 e13 K14 e14 K15 e15 K16 e16
                  clear hF13 hM0
                  refine nx ?_
                  refine wp_cond_false (hF14.ev 79 rfl) ?_
                  refine wp_skip ?_
                  refine nx ?_
                  refine wp_seq ?_
                  refine wp_region_lit ?_
                  refine sq (v := (.func (.func 75) #[] #[(.pointer (some ⟨g2, 0, none⟩)), (.pointer (some ⟨g0, 0, none⟩))])) hF14 (wantedS rfl) (run_mv rfl (hF14.ev 11 rfl)) rfl (by decide) fun a15 hF15 => ?_
                  refine sq (v := (.int .i64 (j : Int))) hF15 (wantedS rfl) (run_mv rfl (hF15.ev 8 rfl)) rfl (by decide) fun a16 hF16 => ?_
                  refine sq (v := (.int .i64 (p : Int))) hF16 (wantedS rfl) (run_mv rfl (hF16.ev 1 rfl)) rfl (by decide) fun a17 hF17 => ?_
                  refine sqC (v := (.int .i64 (n : Int))) hF17 hM1 (wantedS rfl) (run_callF rfl (hF17.ev 80 rfl) Tryd.func75 (by kernel_rfl) rfl (mapE2 (hF17.ev 81 rfl) (hF17.ev 82 rfl)) rfl) rfl (by decide) ((by rw [← hn]; exact zsame_any s gp gm ga g2 g0 p j mo _ _ w2 (hB.below hM1.below hB.lt) (hM1.at 0 rfl) (hM1.at 1 rfl) hs hjp hp hmo)) fun a18 w3 hb3 hF18 hM2 => ?_
                  refine sq (v := (.int .i64 (n : Int))) hF18 (wantedS rfl) (run_as rfl (hF18.ev 83 rfl)) rfl (by decide) fun a19 hF19 => ?_
                  refine sqEnd ?_
                  clear hF14 hF15 hF16 hF17 hF18 hM1
                  refine nx ?_
                  refine wp_seq ?_
                  refine wp_region_lit ?_
                  refine sq (v := (.int .i64 (n : Int))) hF19 (wantedS rfl) (run_mv rfl (hF19.ev 14 rfl)) rfl (by decide) fun a20 hF20 => ?_
                  refine sq (v := (.int .i64 (x12 : Int))) hF20 (wantedS rfl) (run_mv rfl (hF20.ev 12 rfl)) rfl (by decide) fun a21 hF21 => ?_
                  refine sq (v := (.bool false)) hF21 (wantedS rfl) (run_gtr rfl (hF21.ev 84 rfl) (hF21.ev 85 rfl) (decide_eq_false (by omega))) rfl (by decide) fun a22 hF22 => ?_
                  refine sqEnd ?_
                  clear hF19 hF20 hF21
                  refine nx ?_
                  refine wp_cond_false (hF22.ev 86 rfl) ?_
                  refine wp_skip ?_
                  refine bkEnd ?_
                  refine nx ?_
                  refine wp_region_lit ?_
                  refine sq (v := (.pointer (some ⟨gp, 0, none⟩))) hF22 (wantedS rfl) (run_ld1 rfl (hF22.ev 2 rfl) (hM2.at 1 rfl) (by kernel_rfl)) rfl (by decide) fun a23 hF23 => ?_
                  refine sq (v := (.pointer (some ⟨gp, 0, none⟩))) hF23 (wantedS rfl) (run_nilp rfl (hF23.ev 56 rfl)) rfl (by decide) fun a24 hF24 => ?_
                  refine sq (v := (.pointer (some ⟨gp, 2, none⟩))) hF24 (wantedS rfl) (run_fldA (m := 1) (s := 2) rfl (hF24.ev 57 rfl) Tryd.underlying80 rfl rfl (by kernel_rfl) (by decide)) rfl (by decide) fun a25 hF25 => ?_
                  refine sq (v := (.slice (some ⟨ga, 0, none⟩) s.length s.length)) hF25 (wantedS rfl) (run_ldF rfl (hF25.ev 58 rfl) (hB.below hM2.below hB.lt) rfl (by kernel_rfl)) rfl (by decide) fun a26 hF26 => ?_
                  refine sq (v := (.int .i64 (j : Int))) hF26 (wantedS rfl) (run_mv rfl (hF26.ev 8 rfl)) rfl (by decide) fun a27 hF27 => ?_
                  refine sq (v := (.pointer (some ⟨ga, j, none⟩))) hF27 (wantedS rfl) (run_idxI (i := j) rfl (hF27.ev 59 rfl) (hF27.ev 60 rfl) rfl (by omega)) rfl (by decide) fun a28 hF28 => ?_
                  refine sq (v := (.int .i64 (encS (lastS s K j)))) hF28 (wantedS rfl) (run_ldI rfl (hF28.ev 61 rfl) (hA.below hM2.below hA.lt) hzj) rfl (by decide) fun a29 hF29 => ?_
                  refine sq (v := (.int .i64 (encS (lastS s K j)))) hF29 (wantedS rfl) (run_as rfl (hF29.ev 62 rfl)) rfl (by decide) fun a30 hF30 => ?_
                  refine sqEnd ?_
                  clear hF22 hF23 hF24 hF25 hF26 hF27 hF28 hF29
                  refine nx ?_
                  exact ⟨_, hjm, j, x12, x13, by omega, rfl, by omega, by rw [hone, if_neg (fun h => h5 h.1)], hF30.sub ⟨rfl, rfl, rfl, rfl, rfl, rfl, rfl, trivial⟩, hM2⟩
            · have h6 : n ≤ x12 := by rw [← hn]; exact same_le_of hjp (bt_ne (by omega) (by omega) h3)
              refine wp_seq ?_
              refine wp_seq ?_
              refine wp_region_lit ?_
              refine sq (v := (.int .i64 (j : Int))) hF0 (wantedS rfl) (run_mv rfl (hF0.ev 8 rfl)) rfl (by decide) fun a1 hF1 => ?_
              refine sq (v := (.bool true)) hF1 (wantedS rfl) (run_geq rfl (hF1.ev 43 rfl) rfl (decide_eq_true (by omega))) rfl (by decide) fun a2 hF2 => ?_
              refine sq (v := (.bool true)) hF2 (wantedS rfl) (run_mv rfl (hF2.ev 44 rfl)) rfl (by decide) fun a3 hF3 => ?_
              refine sq (v := (.int .i64 (p : Int))) hF3 (wantedG hF3 rfl rfl rfl rfl rfl) (run_mv rfl (hF3.ev 1 rfl)) rfl (by decide) fun a4 hF4 => ?_
              refine sq (v := (.int .i64 (j : Int))) hF4 (wantedG hF4 rfl rfl rfl rfl rfl) (run_mv rfl (hF4.ev 8 rfl)) rfl (by decide) fun a5 hF5 => ?_
              refine sq (v := (.int .i64 ((p - j : Nat) : Int))) hF5 (wantedG hF5 rfl rfl rfl rfl rfl) (run_sub (r := ((p - j : Nat) : Int)) rfl (hF5.ev 46 rfl) (hF5.ev 47 rfl) (by rw [IntKind.wrap_i64]; omega)) rfl (by decide) fun a6 hF6 => ?_
              refine sq (v := (.bool true)) hF6 (wantedG hF6 rfl rfl rfl rfl rfl) (run_leq rfl (hF6.ev 48 rfl) rfl (decide_eq_true (by omega))) rfl (by decide) fun a7 hF7 => ?_
              refine sq (v := (.bool true)) hF7 (wantedS rfl) (run_pick rfl (hF7.ev 45 rfl) (hF7.ev 49 rfl) rfl) rfl (by decide) fun a8 hF8 => ?_
              refine sq (v := (.bool true)) hF8 (wantedS rfl) (run_mv rfl (hF8.ev 50 rfl)) rfl (by decide) fun a9 hF9 => ?_
              refine sq (v := (.int .i64 (x12 : Int))) hF9 (wantedG hF9 rfl rfl rfl rfl rfl) (run_mv rfl (hF9.ev 12 rfl)) rfl (by decide) fun a10 hF10 => ?_
              refine sq (v := (.int .i64 (mo : Int))) hF10 (wantedG hF10 rfl rfl rfl rfl rfl) (run_ld1 rfl (hF10.ev 10 rfl) (hM0.at 0 rfl) (by kernel_rfl)) rfl (by decide) fun a11 hF11 => ?_
              refine sq (v := (.bool true)) hF11 (wantedG hF11 rfl rfl rfl rfl rfl) (run_lss rfl (hF11.ev 52 rfl) (hF11.ev 53 rfl) (decide_eq_true (by omega))) rfl (by decide) fun a12 hF12 => ?_
              refine sq (v := (.bool true)) hF12 (wantedS rfl) (run_pick rfl (hF12.ev 51 rfl) (hF12.ev 54 rfl) rfl) rfl (by decide) fun a13 hF13 => ?_
              refine sqEnd ?_
              clear hF0 hF1 hF2 hF3 hF4 hF5 hF6 hF7 hF8 hF9 hF10 hF11 hF12
              refine nx ?_
              refine wp_cond_true (hF13.ev 55 rfl) ?_
              refine wp_skip ?_
              refine nx ?_
              refine wp_seq ?_
              refine wp_block ?_
              refine wp_seq ?_
              refine wp_seq ?_
              obtain ⟨KL, hKL⟩ : ∃ KL, KL = [kval (.pointer (some ⟨gp, 0, none⟩)), kval (.pointer (some ⟨gp, 0, none⟩)), kval (.pointer (some ⟨gp, 0, none⟩)), kval (.string ⟨s.toArray⟩), kval (.int .i64 (j : Int)), kval (.int .i64 (x12 : Int)), kval (.int .i64 ((j + x12 : Nat) : Int)), kval (.int .u8 ((bt s (j + x12)).toNat : Int)), kval (.pointer (some ⟨gp, 0, none⟩)), kval (.pointer (some ⟨gp, 0, none⟩)), kval (.pointer (some ⟨gp, 0, none⟩)), kval (.string ⟨s.toArray⟩), kval (.int .i64 (p : Int)), kval (.int .i64 (x12 : Int)), kval (.int .i64 ((p + x12 : Nat) : Int)), kval (.int .u8 ((bt s (p + x12)).toNat : Int)), kval (.bool true)] := ⟨_, rfl⟩
              have K0 : KL.getD 0 kany = kval (.pointer (some ⟨gp, 0, none⟩)) := by rw [hKL]; rfl
              have K1 : KL.getD 1 kany = kval (.pointer (some ⟨gp, 0, none⟩)) := by rw [hKL]; rfl
              have K2 : KL.getD 2 kany = kval (.pointer (some ⟨gp, 0, none⟩)) := by rw [hKL]; rfl
              have K3 : KL.getD 3 kany = kval (.string ⟨s.toArray⟩) := by rw [hKL]; rfl
              have K4 : KL.getD 4 kany = kval (.int .i64 (j : Int)) := by rw [hKL]; rfl
              have K5 : KL.getD 5 kany = kval (.int .i64 (x12 : Int)) := by rw [hKL]; rfl
              have K6 : KL.getD 6 kany = kval (.int .i64 ((j + x12 : Nat) : Int)) := by rw [hKL]; rfl
              have K7 : KL.getD 7 kany = kval (.int .u8 ((bt s (j + x12)).toNat : Int)) := by rw [hKL]; rfl
              have K8 : KL.getD 8 kany = kval (.pointer (some ⟨gp, 0, none⟩)) := by rw [hKL]; rfl
              have K9 : KL.getD 9 kany = kval (.pointer (some ⟨gp, 0, none⟩)) := by rw [hKL]; rfl
              have K10 : KL.getD 10 kany = kval (.pointer (some ⟨gp, 0, none⟩)) := by rw [hKL]; rfl
              have K11 : KL.getD 11 kany = kval (.string ⟨s.toArray⟩) := by rw [hKL]; rfl
              have K12 : KL.getD 12 kany = kval (.int .i64 (p : Int)) := by rw [hKL]; rfl
              have K13 : KL.getD 13 kany = kval (.int .i64 (x12 : Int)) := by rw [hKL]; rfl
              have K14 : KL.getD 14 kany = kval (.int .i64 ((p + x12 : Nat) : Int)) := by rw [hKL]; rfl
              have K15 : KL.getD 15 kany = kval (.int .u8 ((bt s (p + x12)).toNat : Int)) := by rw [hKL]; rfl
              have K16 : KL.getD 16 kany = kval (.bool true) := by rw [hKL]; rfl
              clear hKL
              refine wp_region_kd 93 (by kernel_rfl) (by kernel_rfl) (by kernel_rfl) hF13.size KL ?_ ?_
              · refine ⟨?_, ?_, ?_, ?_, ?_, ?_, ?_, ?_, ?_, ?_, ?_, ?_, ?_, ?_, ?_, ?_, ?_, trivial⟩
                · refine asks_mk fun a W hS hh hd => ⟨wanted_yes rfl, ?_⟩
                  exact giv_run (run_ld1 rfl (eval_tmp (hh 2 _ rfl (hF13.at 2 rfl))) ((hM0.grow hS).at 1 rfl) (by kernel_rfl)) K0
                · refine asks_mk fun a W hS hh hd => ⟨wanted_yes rfl, ?_⟩
                  exact giv_run (run_nilp rfl (eval_tmp (hd.val (j := 0) (s := 63) (by kernel_rfl) K0))) K1
                · refine asks_mk fun a W hS hh hd => ⟨wanted_yes rfl, ?_⟩
                  exact giv_run (run_fldA (m := 1) (s := 0) rfl (eval_tmp (hd.val (j := 1) (s := 64) (by kernel_rfl) K1)) Tryd.underlying80 rfl rfl (by kernel_rfl) (by decide)) K2
                · refine asks_mk fun a W hS hh hd => ⟨wanted_yes rfl, ?_⟩
                  exact giv_run (run_ldF rfl (eval_tmp (hd.val (j := 2) (s := 65) (by kernel_rfl) K2)) (hB.below (hM0.grow hS).below hB.lt) rfl (by kernel_rfl)) K3
                · refine asks_mk fun a W hS hh hd => ⟨wanted_yes rfl, ?_⟩
                  exact giv_run (run_mv rfl (eval_tmp (hh 8 _ rfl (hF13.at 8 rfl)))) K4
                · refine asks_mk fun a W hS hh hd => ⟨wanted_yes rfl, ?_⟩
                  exact giv_run (run_mv rfl (eval_tmp (hh 12 _ rfl (hF13.at 12 rfl)))) K5
                · refine asks_mk fun a W hS hh hd => ⟨wanted_yes rfl, ?_⟩
                  exact giv_run (run_add (r := ((j + x12 : Nat) : Int)) rfl (eval_tmp (hd.val (j := 4) (s := 67) (by kernel_rfl) K4)) (eval_tmp (hd.val (j := 5) (s := 68) (by kernel_rfl) K5)) (by rw [IntKind.wrap_i64]; omega)) K6
                · refine asks_mk fun a W hS hh hd => ⟨wanted_yes rfl, ?_⟩
                  exact giv_run (run_sAt (n := (j + x12)) rfl (eval_tmp (hd.val (j := 3) (s := 66) (by kernel_rfl) K3)) (eval_tmp (hd.val (j := 6) (s := 69) (by kernel_rfl) K6)) Tryd.underlying9 rfl (by omega)) K7
                · refine asks_mk fun a W hS hh hd => ⟨wanted_yes rfl, ?_⟩
                  exact giv_run (run_ld1 rfl (eval_tmp (hh 2 _ rfl (hF13.at 2 rfl))) ((hM0.grow hS).at 1 rfl) (by kernel_rfl)) K8
                · refine asks_mk fun a W hS hh hd => ⟨wanted_yes rfl, ?_⟩
                  exact giv_run (run_nilp rfl (eval_tmp (hd.val (j := 8) (s := 71) (by kernel_rfl) K8))) K9
                · refine asks_mk fun a W hS hh hd => ⟨wanted_yes rfl, ?_⟩
                  exact giv_run (run_fldA (m := 1) (s := 0) rfl (eval_tmp (hd.val (j := 9) (s := 72) (by kernel_rfl) K9)) Tryd.underlying80 rfl rfl (by kernel_rfl) (by decide)) K10
                · refine asks_mk fun a W hS hh hd => ⟨wanted_yes rfl, ?_⟩
                  exact giv_run (run_ldF rfl (eval_tmp (hd.val (j := 10) (s := 73) (by kernel_rfl) K10)) (hB.below (hM0.grow hS).below hB.lt) rfl (by kernel_rfl)) K11
                · refine asks_mk fun a W hS hh hd => ⟨wanted_yes rfl, ?_⟩
                  exact giv_run (run_mv rfl (eval_tmp (hh 1 _ rfl (hF13.at 1 rfl)))) K12
                · refine asks_mk fun a W hS hh hd => ⟨wanted_yes rfl, ?_⟩
                  exact giv_run (run_mv rfl (eval_tmp (hh 12 _ rfl (hF13.at 12 rfl)))) K13
                · refine asks_mk fun a W hS hh hd => ⟨wanted_yes rfl, ?_⟩
                  exact giv_run (run_add (r := ((p + x12 : Nat) : Int)) rfl (eval_tmp (hd.val (j := 12) (s := 75) (by kernel_rfl) K12)) (eval_tmp (hd.val (j := 13) (s := 76) (by kernel_rfl) K13)) (by rw [IntKind.wrap_i64]; omega)) K14
                · refine asks_mk fun a W hS hh hd => ⟨wanted_yes rfl, ?_⟩
                  exact giv_run (run_sAt (n := (p + x12)) rfl (eval_tmp (hd.val (j := 11) (s := 74) (by kernel_rfl) K11)) (eval_tmp (hd.val (j := 14) (s := 77) (by kernel_rfl) K14)) Tryd.underlying9 rfl (by omega)) K15
                · refine asks_mk fun a W hS hh hd => ⟨wanted_yes rfl, ?_⟩
                  exact giv_run (run_nei rfl (eval_tmp (hd.val (j := 7) (s := 70) (by kernel_rfl) K7)) (eval_tmp (hd.val (j := 15) (s := 78) (by kernel_rfl) K15)) (bne_iff_ne.2 (by omega))) K16
              · intro a14 w2 hb2 hK
                have e0 := hK.val (i := 0) (s := 63) (by kernel_rfl) K0
                have e1 := hK.val (i := 1) (s := 64) (by kernel_rfl) K1
                have e2 := hK.val (i := 2) (s := 65) (by kernel_rfl) K2
                have e3 := hK.val (i := 3) (s := 66) (by kernel_rfl) K3
                have e4 := hK.val (i := 4) (s := 67) (by kernel_rfl) K4
                have e5 := hK.val (i := 5) (s := 68) (by kernel_rfl) K5
                have e6 := hK.val (i := 6) (s := 69) (by kernel_rfl) K6
                have e7 := hK.val (i := 7) (s := 70) (by kernel_rfl) K7
                have e8 := hK.val (i := 8) (s := 71) (by kernel_rfl) K8
                have e9 := hK.val (i := 9) (s := 72) (by kernel_rfl) K9
                have e10 := hK.val (i := 10) (s := 73) (by kernel_rfl) K10
                have e11 := hK.val (i := 11) (s := 74) (by kernel_rfl) K11
                have e12 := hK.val (i := 12) (s := 75) (by kernel_rfl) K12
                have e13 := hK.val (i := 13) (s := 76) (by kernel_rfl) K13
                have e14 := hK.val (i := 14) (s := 77) (by kernel_rfl) K14
                have e15 := hK.val (i := 15) (s := 78) (by kernel_rfl) K15
                have e16 := hK.val (i := 16) (s := 79) (by kernel_rfl) K16
                have hF14 : Fr a14 93 [(1, (.int .i64 (p : Int))), (2, (.pointer (some ⟨g0, 0, none⟩))), (8, (.int .i64 (j : Int))), (10, (.pointer (some ⟨g2, 0, none⟩))), (11, (.func (.func 75) #[] #[(.pointer (some ⟨g2, 0, none⟩)), (.pointer (some ⟨g0, 0, none⟩))])), (12, (.int .i64 (x12 : Int))), (13, (.int .i64 (x13 : Int))), (43, (.int .i64 (j : Int))), (44, (.bool true)), (45, (.bool true)), (46, (.int .i64 (p : Int))), (47, (.int .i64 (j : Int))), (48, (.int .i64 ((p - j : Nat) : Int))), (49, (.bool true)), (50, (.bool true)), (51, (.bool true)), (52, (.int .i64 (x12 : Int))), (53, (.int .i64 (mo : Int))), (54, (.bool true)), (55, (.bool true)), (79, (.bool true))] := (hK.fr hF13 [(.pointer (some ⟨gp, 0, none⟩)), (.pointer (some ⟨gp, 0, none⟩)), (.pointer (some ⟨gp, 0, none⟩)), (.string ⟨s.toArray⟩), (.int .i64 (j : Int)), (.int .i64 (x12 : Int)), (.int .i64 ((j + x12 : Nat) : Int)), (.int .u8 ((bt s (j + x12)).toNat : Int)), (.pointer (some ⟨gp, 0, none⟩)), (.pointer (some ⟨gp, 0, none⟩)), (.pointer (some ⟨gp, 0, none⟩)), (.string ⟨s.toArray⟩), (.int .i64 (p : Int)), (.int .i64 (x12 : Int)), (.int .i64 ((p + x12 : Nat) : Int)), (.int .u8 ((bt s (p + x12)).toNat : Int)), (.bool true)] ⟨e0, e1, e2, e3, e4, e5, e6, e7, e8, e9, e10, e11, e12, e13, e14, e15, e16, trivial⟩).sub ⟨rfl, rfl, rfl, rfl, rfl, rfl, rfl, rfl, rfl, rfl, rfl, rfl, rfl, rfl, rfl, rfl, rfl, rfl, rfl, rfl, rfl, trivial⟩
                have hM1 := hM0.grow hb2
                clear hK K0 e0 K1 e1 K2 e2 K3 e3 K4 e4 K5 e5 K6 e6 K7 e7 K8 e8 K9 e9 K10 e10 K11 e11 K12 e12 K13 e13 K14 e14 K15 e15 K16 e16
                clear hF13 hM0
                refine nx ?_
                refine wp_cond_true (hF14.ev 79 rfl) ?_
                refine wp_exit ?_
                refine nxExit ?_
                refine bkHere ?_
                refine nx ?_
                refine wp_region_lit ?_
                refine sq (v := (.pointer (some ⟨gp, 0, none⟩))) hF14 (wantedS rfl) (run_ld1 rfl (hF14.ev 2 rfl) (hM1.at 1 rfl) (by kernel_rfl)) rfl (by decide) fun a15 hF15 => ?_
                refine sq (v := (.pointer (some ⟨gp, 0, none⟩))) hF15 (wantedS rfl) (run_nilp rfl (hF15.ev 56 rfl)) rfl (by decide) fun a16 hF16 => ?_
                refine sq (v := (.pointer (some ⟨gp, 2, none⟩))) hF16 (wantedS rfl) (run_fldA (m := 1) (s := 2) rfl (hF16.ev 57 rfl) Tryd.underlying80 rfl rfl (by kernel_rfl) (by decide)) rfl (by decide) fun a17 hF17 => ?_
                refine sq (v := (.slice (some ⟨ga, 0, none⟩) s.length s.length)) hF17 (wantedS rfl) (run_ldF rfl (hF17.ev 58 rfl) (hB.below hM1.below hB.lt) rfl (by kernel_rfl)) rfl (by decide) fun a18 hF18 => ?_
                refine sq (v := (.int .i64 (j : Int))) hF18 (wantedS rfl) (run_mv rfl (hF18.ev 8 rfl)) rfl (by decide) fun a19 hF19 => ?_
                refine sq (v := (.pointer (some ⟨ga, j, none⟩))) hF19 (wantedS rfl) (run_idxI (i := j) rfl (hF19.ev 59 rfl) (hF19.ev 60 rfl) rfl (by omega)) rfl (by decide) fun a20 hF20 => ?_
                refine sq (v := (.int .i64 (encS (lastS s K j)))) hF20 (wantedS rfl) (run_ldI rfl (hF20.ev 61 rfl) (hA.below hM1.below hA.lt) hzj) rfl (by decide) fun a21 hF21 => ?_
                refine sq (v := (.int .i64 (encS (lastS s K j)))) hF21 (wantedS rfl) (run_as rfl (hF21.ev 62 rfl)) rfl (by decide) fun a22 hF22 => ?_
                refine sqEnd ?_
                clear hF14 hF15 hF16 hF17 hF18 hF19 hF20 hF21
                refine nx ?_
                exact ⟨_, hjm, j, x12, x13, by omega, rfl, by omega, by rw [hone, if_neg (fun h => by omega)], hF22.sub ⟨rfl, rfl, rfl, rfl, rfl, rfl, rfl, trivial⟩, hM1⟩
          · have hres : best4 s p (min p 65535) = (x12, x13) := by rw [best4_end3 hq hd (by rw [hb4, ← hmo]; simp only; omega), hb4]
            refine wp_seq ?_
            refine wp_seq ?_
            refine wp_region_lit ?_
            refine sq (v := (.int .i64 (j : Int))) hF0 (wantedS rfl) (run_mv rfl (hF0.ev 8 rfl)) rfl (by decide) fun a1 hF1 => ?_
            refine sq (v := (.bool true)) hF1 (wantedS rfl) (run_geq rfl (hF1.ev 43 rfl) rfl (decide_eq_true (by omega))) rfl (by decide) fun a2 hF2 => ?_
            refine sq (v := (.bool true)) hF2 (wantedS rfl) (run_mv rfl (hF2.ev 44 rfl)) rfl (by decide) fun a3 hF3 => ?_
            refine sq (v := (.int .i64 (p : Int))) hF3 (wantedG hF3 rfl rfl rfl rfl rfl) (run_mv rfl (hF3.ev 1 rfl)) rfl (by decide) fun a4 hF4 => ?_
            refine sq (v := (.int .i64 (j : Int))) hF4 (wantedG hF4 rfl rfl rfl rfl rfl) (run_mv rfl (hF4.ev 8 rfl)) rfl (by decide) fun a5 hF5 => ?_
            refine sq (v := (.int .i64 ((p - j : Nat) : Int))) hF5 (wantedG hF5 rfl rfl rfl rfl rfl) (run_sub (r := ((p - j : Nat) : Int)) rfl (hF5.ev 46 rfl) (hF5.ev 47 rfl) (by rw [IntKind.wrap_i64]; omega)) rfl (by decide) fun a6 hF6 => ?_
            refine sq (v := (.bool true)) hF6 (wantedG hF6 rfl rfl rfl rfl rfl) (run_leq rfl (hF6.ev 48 rfl) rfl (decide_eq_true (by omega))) rfl (by decide) fun a7 hF7 => ?_
            refine sq (v := (.bool true)) hF7 (wantedS rfl) (run_pick rfl (hF7.ev 45 rfl) (hF7.ev 49 rfl) rfl) rfl (by decide) fun a8 hF8 => ?_
            refine sq (v := (.bool true)) hF8 (wantedS rfl) (run_mv rfl (hF8.ev 50 rfl)) rfl (by decide) fun a9 hF9 => ?_
            refine sq (v := (.int .i64 (x12 : Int))) hF9 (wantedG hF9 rfl rfl rfl rfl rfl) (run_mv rfl (hF9.ev 12 rfl)) rfl (by decide) fun a10 hF10 => ?_
            refine sq (v := (.int .i64 (mo : Int))) hF10 (wantedG hF10 rfl rfl rfl rfl rfl) (run_ld1 rfl (hF10.ev 10 rfl) (hM0.at 0 rfl) (by kernel_rfl)) rfl (by decide) fun a11 hF11 => ?_
            refine sq (v := (.bool false)) hF11 (wantedG hF11 rfl rfl rfl rfl rfl) (run_lss rfl (hF11.ev 52 rfl) (hF11.ev 53 rfl) (decide_eq_false (by omega))) rfl (by decide) fun a12 hF12 => ?_
            refine sq (v := (.bool false)) hF12 (wantedS rfl) (run_pick rfl (hF12.ev 51 rfl) (hF12.ev 54 rfl) rfl) rfl (by decide) fun a13 hF13 => ?_
            refine sqEnd ?_
            clear hF0 hF1 hF2 hF3 hF4 hF5 hF6 hF7 hF8 hF9 hF10 hF11 hF12
            refine nx ?_
            refine wp_cond_false (hF13.ev 55 rfl) ?_
            refine wp_exit ?_
            refine nxExit ?_
            refine nxExit ?_
            refine bkHere ?_
            refine nx ?_
            refine wp_seq ?_
            refine wp_region_lit ?_
            refine sq (v := (.int .i64 (x12 : Int))) hF13 (wantedS rfl) (run_mv rfl (hF13.ev 12 rfl)) rfl (by decide) fun a14 hF14 => ?_
            refine sq (v := (.int .i64 (x13 : Int))) hF14 (wantedS rfl) (run_mv rfl (hF14.ev 13 rfl)) rfl (by decide) fun a15 hF15 => ?_
            refine sq (v := (.int .i64 (x12 : Int))) hF15 (wantedS rfl) (run_as rfl (hF15.ev 91 rfl)) rfl (by decide) fun a16 hF16 => ?_
            refine sq (v := (.int .i64 (x13 : Int))) hF16 (wantedS rfl) (run_as rfl (hF16.ev 92 rfl)) rfl (by decide) fun a17 hF17 => ?_
            refine sqEnd ?_
            clear hF13 hF14 hF15 hF16
            refine nx ?_
            refine wp_ret ?_
            exact ret2 hF17 rfl rfl rfl ⟨by rw [hres], hM0.below⟩
        · have hres : best4 s p (min p 65535) = (x12, x13) := by rw [best4_end2 hjm hq hd (by omega) (fun i h3 h4 => by rw [hK]; exact hbt i h3 h4), hb4]
          refine wp_seq ?_
          refine wp_seq ?_
          refine wp_region_lit ?_
          refine sq (v := (.int .i64 (j : Int))) hF0 (wantedS rfl) (run_mv rfl (hF0.ev 8 rfl)) rfl (by decide) fun a1 hF1 => ?_
          refine sq (v := (.bool true)) hF1 (wantedS rfl) (run_geq rfl (hF1.ev 43 rfl) rfl (decide_eq_true (by omega))) rfl (by decide) fun a2 hF2 => ?_
          refine sq (v := (.bool true)) hF2 (wantedS rfl) (run_mv rfl (hF2.ev 44 rfl)) rfl (by decide) fun a3 hF3 => ?_
          refine sq (v := (.int .i64 (p : Int))) hF3 (wantedG hF3 rfl rfl rfl rfl rfl) (run_mv rfl (hF3.ev 1 rfl)) rfl (by decide) fun a4 hF4 => ?_
          refine sq (v := (.int .i64 (j : Int))) hF4 (wantedG hF4 rfl rfl rfl rfl rfl) (run_mv rfl (hF4.ev 8 rfl)) rfl (by decide) fun a5 hF5 => ?_
          refine sq (v := (.int .i64 ((p - j : Nat) : Int))) hF5 (wantedG hF5 rfl rfl rfl rfl rfl) (run_sub (r := ((p - j : Nat) : Int)) rfl (hF5.ev 46 rfl) (hF5.ev 47 rfl) (by rw [IntKind.wrap_i64]; omega)) rfl (by decide) fun a6 hF6 => ?_
          refine sq (v := (.bool false)) hF6 (wantedG hF6 rfl rfl rfl rfl rfl) (run_leq rfl (hF6.ev 48 rfl) rfl (decide_eq_false (by omega))) rfl (by decide) fun a7 hF7 => ?_
          refine sq (v := (.bool false)) hF7 (wantedS rfl) (run_pick rfl (hF7.ev 45 rfl) (hF7.ev 49 rfl) rfl) rfl (by decide) fun a8 hF8 => ?_
          refine sq (v := (.bool false)) hF8 (wantedS rfl) (run_mv rfl (hF8.ev 50 rfl)) rfl (by decide) fun a9 hF9 => ?_
          refine sqSkip hF9 (unwantedG hF9 rfl rfl rfl rfl rfl) rfl (by decide) fun a10 hF10 => ?_
          refine sqSkip hF10 (unwantedG hF10 rfl rfl rfl rfl rfl) rfl (by decide) fun a11 hF11 => ?_
          refine sqSkip hF11 (unwantedG hF11 rfl rfl rfl rfl rfl) rfl (by decide) fun a12 hF12 => ?_
          refine sq (v := (.bool false)) hF12 (wantedS rfl) (run_pick rfl (hF12.ev 51 rfl) (hF12.ev 54 rfl) rfl) rfl (by decide) fun a13 hF13 => ?_
          refine sqEnd ?_
          clear hF0 hF1 hF2 hF3 hF4 hF5 hF6 hF7 hF8 hF9 hF10 hF11 hF12
          refine nx ?_
          refine wp_cond_false (hF13.ev 55 rfl) ?_
          refine wp_exit ?_
          refine nxExit ?_
          refine nxExit ?_
          refine bkHere ?_
          refine nx ?_
          refine wp_seq ?_
          refine wp_region_lit ?_
          refine sq (v := (.int .i64 (x12 : Int))) hF13 (wantedS rfl) (run_mv rfl (hF13.ev 12 rfl)) rfl (by decide) fun a14 hF14 => ?_
          refine sq (v := (.int .i64 (x13 : Int))) hF14 (wantedS rfl) (run_mv rfl (hF14.ev 13 rfl)) rfl (by decide) fun a15 hF15 => ?_
          refine sq (v := (.int .i64 (x12 : Int))) hF15 (wantedS rfl) (run_as rfl (hF15.ev 91 rfl)) rfl (by decide) fun a16 hF16 => ?_
          refine sq (v := (.int .i64 (x13 : Int))) hF16 (wantedS rfl) (run_as rfl (hF16.ev 92 rfl)) rfl (by decide) fun a17 hF17 => ?_
          refine sqEnd ?_
          clear hF13 hF14 hF15 hF16
          refine nx ?_
          refine wp_ret ?_
          exact ret2 hF17 rfl rfl rfl ⟨by rw [hres], hM0.below⟩
end Go.Proofs.YtpobmaklgnioeaaDoor
