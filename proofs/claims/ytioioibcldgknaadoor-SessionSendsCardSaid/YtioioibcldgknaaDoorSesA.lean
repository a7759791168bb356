/- The walk of the law SessionSends. Printed by gen_ses4.py. -/
import Derived.Test.YtioioibcldgknaaDoorSes4
namespace Go.Proofs.YtioioibcldgknaaDoor
open Go.RowKit

attribute [local simp] xorS_len tagS_len keyedS_len nonceS_len
set_option maxRecDepth 100000 in
set_option maxHeartbeats 1000000 in
theorem lawSSends_any (c : Ch) (d : List UInt8) (w : World) (HG : Glob w) (hLc : c.k.length = 32) (hcn : c.n < 2 ^ 64) (hd : d.length ≤ maxLen) : Calls Tryd.prog 7 #[.agg (chA c), .string ⟨d.toArray⟩] w fun e w' => e = .returned (.bool true) ∧ Below w.heap.size w w' := by
  unfold maxLen at *
  by_cases h1 : 100 < c.m.length
  · skip
    refine walk_enter Tryd.func7 rfl rfl rfl fun a0 hF0 => ?_
    have hM0 := Mem.new w
    refine wp_seq ?_
    refine wp_region_lit ?_
    refine sqNew (cs := (chA c)) (t := 26) hF0 hM0 (wantedS rfl) (run_box rfl (hF0.ev 0 rfl)) rfl (by decide) fun g0 a1 w1 hgg0 hb1 hF1 hM1 => ?_
    refine sq (v := (.bool false)) hF1 (wantedS rfl) (run_as rfl rfl) rfl (by decide) fun a2 hF2 => ?_
    refine sqEnd ?_
    clear hF0 hF1 hM0
    refine nx ?_
    refine wp_seq ?_
    refine wp_seq ?_
    refine wp_region_lit ?_
    refine sq (v := (.pointer (some ⟨g0, 0, none⟩))) hF2 (wantedS rfl) (run_fldA (m := 1) (s := 0) rfl (hF2.ev 2 rfl) Tryd.underlying26 rfl rfl (by kernel_rfl) (by decide)) rfl (by decide) fun a3 hF3 => ?_
    refine sq (v := (.string ⟨c.m.toArray⟩)) hF3 (wantedS rfl) (run_ldF rfl (hF3.ev 11 rfl) (hM1.at 0 rfl) rfl (by kernel_rfl)) rfl (by decide) fun a4 hF4 => ?_
    refine sq (v := (.int .i64 (c.m.length : Int))) hF4 (wantedS rfl) (run_len rfl (hF4.ev 12 rfl) rfl Tryd.underlying9) rfl (by decide) fun a5 hF5 => ?_
    refine sq (v := (.bool true)) hF5 (wantedS rfl) (run_gtr rfl (hF5.ev 13 rfl) rfl (decide_eq_true (by omega))) rfl (by decide) fun a6 hF6 => ?_
    refine sq (v := (.bool true)) hF6 (wantedS rfl) (run_mv rfl (hF6.ev 14 rfl)) rfl (by decide) fun a7 hF7 => ?_
    refine sqSkip hF7 (unwantedG hF7 rfl rfl rfl rfl rfl) rfl (by decide) fun a8 hF8 => ?_
    refine sqSkip hF8 (unwantedG hF8 rfl rfl rfl rfl rfl) rfl (by decide) fun a9 hF9 => ?_
    refine sqSkip hF9 (unwantedG hF9 rfl rfl rfl rfl rfl) rfl (by decide) fun a10 hF10 => ?_
    refine sqSkip hF10 (unwantedG hF10 rfl rfl rfl rfl rfl) rfl (by decide) fun a11 hF11 => ?_
    refine sqSkip hF11 (unwantedU hF11 rfl rfl rfl rfl) rfl (by decide) fun a12 hF12 => ?_
    refine sqSkip hF12 (unwantedU hF12 rfl rfl rfl rfl) rfl (by decide) fun a13 hF13 => ?_
    refine sqSkip hF13 (unwantedU hF13 rfl rfl rfl rfl) rfl (by decide) fun a14 hF14 => ?_
    refine sqSkip hF14 (unwantedG hF14 rfl rfl rfl rfl rfl) rfl (by decide) fun a15 hF15 => ?_
    refine sq (v := (.bool true)) hF15 (wantedS rfl) (run_pick rfl (hF15.ev 15 rfl) rfl (hF15.ev 23 rfl)) rfl (by decide) fun a16 hF16 => ?_
    refine sqEnd ?_
    clear hF2 hF3 hF4 hF5 hF6 hF7 hF8 hF9 hF10 hF11 hF12 hF13 hF14 hF15
    refine nx ?_
    refine wp_cond_true (hF16.ev 24 rfl) ?_
    refine wp_seq ?_
    refine wp_region_lit ?_
    refine sqC (v := (.bool true)) hF16 hM1 (wantedS rfl) (run_call rfl Tryd.func11 (by kernel_rfl) rfl (mapE0 )) rfl (by decide) (sfix_any w1 (HG.below hM1.below)) fun a17 w2 hb2 hF17 hM2 => ?_
    refine sq (v := (.bool true)) hF17 (wantedS rfl) (run_as rfl (hF17.ev 25 rfl)) rfl (by decide) fun a18 hF18 => ?_
    refine sqEnd ?_
    clear hF16 hF17 hM1
    refine nx ?_
    refine wp_ret ?_
    refine nxRet ?_
    exact ret1 hF18 rfl rfl ⟨rfl, hM2.below⟩
  by_cases h2 : 600 < d.length
  · by_cases h3 : d.length ≤ 65536
    · skip
      refine walk_enter Tryd.func7 rfl rfl rfl fun a0 hF0 => ?_
      have hM0 := Mem.new w
      refine wp_seq ?_
      refine wp_region_lit ?_
      refine sqNew (cs := (chA c)) (t := 26) hF0 hM0 (wantedS rfl) (run_box rfl (hF0.ev 0 rfl)) rfl (by decide) fun g0 a1 w1 hgg0 hb1 hF1 hM1 => ?_
      refine sq (v := (.bool false)) hF1 (wantedS rfl) (run_as rfl rfl) rfl (by decide) fun a2 hF2 => ?_
      refine sqEnd ?_
      clear hF0 hF1 hM0
      refine nx ?_
      refine wp_seq ?_
      refine wp_seq ?_
      refine wp_region_lit ?_
      refine sq (v := (.pointer (some ⟨g0, 0, none⟩))) hF2 (wantedS rfl) (run_fldA (m := 1) (s := 0) rfl (hF2.ev 2 rfl) Tryd.underlying26 rfl rfl (by kernel_rfl) (by decide)) rfl (by decide) fun a3 hF3 => ?_
      refine sq (v := (.string ⟨c.m.toArray⟩)) hF3 (wantedS rfl) (run_ldF rfl (hF3.ev 11 rfl) (hM1.at 0 rfl) rfl (by kernel_rfl)) rfl (by decide) fun a4 hF4 => ?_
      refine sq (v := (.int .i64 (c.m.length : Int))) hF4 (wantedS rfl) (run_len rfl (hF4.ev 12 rfl) rfl Tryd.underlying9) rfl (by decide) fun a5 hF5 => ?_
      refine sq (v := (.bool false)) hF5 (wantedS rfl) (run_gtr rfl (hF5.ev 13 rfl) rfl (decide_eq_false (by omega))) rfl (by decide) fun a6 hF6 => ?_
      refine sq (v := (.bool false)) hF6 (wantedS rfl) (run_mv rfl (hF6.ev 14 rfl)) rfl (by decide) fun a7 hF7 => ?_
      refine sq (v := (.string ⟨d.toArray⟩)) hF7 (wantedG hF7 rfl rfl rfl rfl rfl) (run_mv rfl (hF7.ev 1 rfl)) rfl (by decide) fun a8 hF8 => ?_
      refine sq (v := (.int .i64 (d.length : Int))) hF8 (wantedG hF8 rfl rfl rfl rfl rfl) (run_len rfl (hF8.ev 16 rfl) rfl Tryd.underlying9) rfl (by decide) fun a9 hF9 => ?_
      refine sq (v := (.bool true)) hF9 (wantedG hF9 rfl rfl rfl rfl rfl) (run_gtr rfl (hF9.ev 17 rfl) rfl (decide_eq_true (by omega))) rfl (by decide) fun a10 hF10 => ?_
      refine sq (v := (.bool true)) hF10 (wantedG hF10 rfl rfl rfl rfl rfl) (run_mv rfl (hF10.ev 18 rfl)) rfl (by decide) fun a11 hF11 => ?_
      refine sq (v := (.string ⟨d.toArray⟩)) hF11 (wantedG hF11 rfl rfl rfl rfl rfl) (run_mv rfl (hF11.ev 1 rfl)) rfl (by decide) fun a12 hF12 => ?_
      refine sq (v := (.int .i64 (d.length : Int))) hF12 (wantedG hF12 rfl rfl rfl rfl rfl) (run_len rfl (hF12.ev 20 rfl) rfl Tryd.underlying9) rfl (by decide) fun a13 hF13 => ?_
      refine sq (v := (.bool true)) hF13 (wantedG hF13 rfl rfl rfl rfl rfl) (run_leq rfl (hF13.ev 21 rfl) rfl (decide_eq_true (by omega))) rfl (by decide) fun a14 hF14 => ?_
      refine sq (v := (.bool true)) hF14 (wantedG hF14 rfl rfl rfl rfl rfl) (run_pick rfl (hF14.ev 19 rfl) (hF14.ev 22 rfl) rfl) rfl (by decide) fun a15 hF15 => ?_
      refine sq (v := (.bool true)) hF15 (wantedS rfl) (run_pick rfl (hF15.ev 15 rfl) rfl (hF15.ev 23 rfl)) rfl (by decide) fun a16 hF16 => ?_
      refine sqEnd ?_
      clear hF2 hF3 hF4 hF5 hF6 hF7 hF8 hF9 hF10 hF11 hF12 hF13 hF14 hF15
      refine nx ?_
      refine wp_cond_true (hF16.ev 24 rfl) ?_
      refine wp_seq ?_
      refine wp_region_lit ?_
      refine sqC (v := (.bool true)) hF16 hM1 (wantedS rfl) (run_call rfl Tryd.func11 (by kernel_rfl) rfl (mapE0 )) rfl (by decide) (sfix_any w1 (HG.below hM1.below)) fun a17 w2 hb2 hF17 hM2 => ?_
      refine sq (v := (.bool true)) hF17 (wantedS rfl) (run_as rfl (hF17.ev 25 rfl)) rfl (by decide) fun a18 hF18 => ?_
      refine sqEnd ?_
      clear hF16 hF17 hM1
      refine nx ?_
      refine wp_ret ?_
      refine nxRet ?_
      exact ret1 hF18 rfl rfl ⟨rfl, hM2.below⟩
    · skip
      refine walk_enter Tryd.func7 rfl rfl rfl fun a0 hF0 => ?_
      have hM0 := Mem.new w
      refine wp_seq ?_
      refine wp_region_lit ?_
      refine sqNew (cs := (chA c)) (t := 26) hF0 hM0 (wantedS rfl) (run_box rfl (hF0.ev 0 rfl)) rfl (by decide) fun g0 a1 w1 hgg0 hb1 hF1 hM1 => ?_
      refine sq (v := (.bool false)) hF1 (wantedS rfl) (run_as rfl rfl) rfl (by decide) fun a2 hF2 => ?_
      refine sqEnd ?_
      clear hF0 hF1 hM0
      refine nx ?_
      refine wp_seq ?_
      refine wp_seq ?_
      refine wp_region_lit ?_
      refine sq (v := (.pointer (some ⟨g0, 0, none⟩))) hF2 (wantedS rfl) (run_fldA (m := 1) (s := 0) rfl (hF2.ev 2 rfl) Tryd.underlying26 rfl rfl (by kernel_rfl) (by decide)) rfl (by decide) fun a3 hF3 => ?_
      refine sq (v := (.string ⟨c.m.toArray⟩)) hF3 (wantedS rfl) (run_ldF rfl (hF3.ev 11 rfl) (hM1.at 0 rfl) rfl (by kernel_rfl)) rfl (by decide) fun a4 hF4 => ?_
      refine sq (v := (.int .i64 (c.m.length : Int))) hF4 (wantedS rfl) (run_len rfl (hF4.ev 12 rfl) rfl Tryd.underlying9) rfl (by decide) fun a5 hF5 => ?_
      refine sq (v := (.bool false)) hF5 (wantedS rfl) (run_gtr rfl (hF5.ev 13 rfl) rfl (decide_eq_false (by omega))) rfl (by decide) fun a6 hF6 => ?_
      refine sq (v := (.bool false)) hF6 (wantedS rfl) (run_mv rfl (hF6.ev 14 rfl)) rfl (by decide) fun a7 hF7 => ?_
      refine sq (v := (.string ⟨d.toArray⟩)) hF7 (wantedG hF7 rfl rfl rfl rfl rfl) (run_mv rfl (hF7.ev 1 rfl)) rfl (by decide) fun a8 hF8 => ?_
      refine sq (v := (.int .i64 (d.length : Int))) hF8 (wantedG hF8 rfl rfl rfl rfl rfl) (run_len rfl (hF8.ev 16 rfl) rfl Tryd.underlying9) rfl (by decide) fun a9 hF9 => ?_
      refine sq (v := (.bool true)) hF9 (wantedG hF9 rfl rfl rfl rfl rfl) (run_gtr rfl (hF9.ev 17 rfl) rfl (decide_eq_true (by omega))) rfl (by decide) fun a10 hF10 => ?_
      refine sq (v := (.bool true)) hF10 (wantedG hF10 rfl rfl rfl rfl rfl) (run_mv rfl (hF10.ev 18 rfl)) rfl (by decide) fun a11 hF11 => ?_
      refine sq (v := (.string ⟨d.toArray⟩)) hF11 (wantedG hF11 rfl rfl rfl rfl rfl) (run_mv rfl (hF11.ev 1 rfl)) rfl (by decide) fun a12 hF12 => ?_
      refine sq (v := (.int .i64 (d.length : Int))) hF12 (wantedG hF12 rfl rfl rfl rfl rfl) (run_len rfl (hF12.ev 20 rfl) rfl Tryd.underlying9) rfl (by decide) fun a13 hF13 => ?_
      refine sq (v := (.bool false)) hF13 (wantedG hF13 rfl rfl rfl rfl rfl) (run_leq rfl (hF13.ev 21 rfl) rfl (decide_eq_false (by omega))) rfl (by decide) fun a14 hF14 => ?_
      refine sq (v := (.bool false)) hF14 (wantedG hF14 rfl rfl rfl rfl rfl) (run_pick rfl (hF14.ev 19 rfl) (hF14.ev 22 rfl) rfl) rfl (by decide) fun a15 hF15 => ?_
      refine sq (v := (.bool false)) hF15 (wantedS rfl) (run_pick rfl (hF15.ev 15 rfl) rfl (hF15.ev 23 rfl)) rfl (by decide) fun a16 hF16 => ?_
      refine sqEnd ?_
      clear hF2 hF3 hF4 hF5 hF6 hF7 hF8 hF9 hF10 hF11 hF12 hF13 hF14 hF15
      refine nx ?_
      refine wp_cond_false (hF16.ev 24 rfl) ?_
      refine wp_skip ?_
      refine nx ?_
      refine wp_seq ?_
      refine wp_region_lit ?_
      refine sq (v := (.agg (chA c))) hF16 (wantedS rfl) (run_ldB rfl (hF16.ev 2 rfl) (hM1.at 0 rfl) Tryd.underlying26 rfl szCh (chA_size hLc)) rfl (by decide) fun a17 hF17 => ?_
      refine sq (v := (.string ⟨d.toArray⟩)) hF17 (wantedS rfl) (run_mv rfl (hF17.ev 1 rfl)) rfl (by decide) fun a18 hF18 => ?_
      refine sqC (v := (.tuple #[(.agg (chA ((sendS c d).1))), (.string ⟨((sendS c d).2.1).toArray⟩), (.int .i64 ((sendS c d).2.2))])) hF18 hM1 (wantedS rfl) (run_call rfl Tryd.func12 (by kernel_rfl) rfl (mapE2 (hF18.ev 27 rfl) (hF18.ev 28 rfl))) rfl (by decide) (send_any c d w1 (HG.below hM1.below) hLc (by first | omega | decide | (simp; done) | (simp; omega)) (by first | omega | decide | (simp; done) | (simp; omega))) fun a19 w2 hb2 hF19 hM2 => ?_
      refine sq (v := (.tuple #[(.agg (chA ((sendS c d).1))), (.string ⟨((sendS c d).2.1).toArray⟩), (.int .i64 ((sendS c d).2.2))])) hF19 (wantedS rfl) (run_mv rfl (hF19.ev 29 rfl)) rfl (by decide) fun a20 hF20 => ?_
      refine sq (v := (.agg (chA ((sendS c d).1)))) hF20 (wantedS rfl) (run_ext rfl (hF20.ev 26 rfl) rfl) rfl (by decide) fun a21 hF21 => ?_
      refine sq (v := (.string ⟨((sendS c d).2.1).toArray⟩)) hF21 (wantedS rfl) (run_ext rfl (hF21.ev 26 rfl) rfl) rfl (by decide) fun a22 hF22 => ?_
      refine sq (v := (.int .i64 ((sendS c d).2.2))) hF22 (wantedS rfl) (run_ext rfl (hF22.ev 26 rfl) rfl) rfl (by decide) fun a23 hF23 => ?_
      refine sqNew (cs := (chA noCh)) (t := 26) hF23 hM2 (wantedS rfl) (run_alloc rfl (by kernel_rfl)) rfl (by decide) fun g1 a24 w3 hgg1 hb3 hF24 hM3 => ?_
      refine sqStore (i := 0) hF24 hM3 rfl rfl rfl (hF24.ev 5 rfl) (hF24.ev 30 rfl) rfl szCh (chA_size (sendS_k _ _)) (chA_size noCh_len) (chA_one _) fun a25 w4 hF25 hM4 => ?_
      refine sq (v := (.string ⟨((sendS c d).2.1).toArray⟩)) hF25 (wantedS rfl) (run_as rfl (hF25.ev 31 rfl)) rfl (by decide) fun a26 hF26 => ?_
      refine sq (v := (.int .i64 ((sendS c d).2.2))) hF26 (wantedS rfl) (run_as rfl (hF26.ev 32 rfl)) rfl (by decide) fun a27 hF27 => ?_
      refine sqEnd ?_
      clear hF16 hF17 hF18 hF19 hF20 hF21 hF22 hF23 hF24 hF25 hF26 hM1 hM2 hM3
      refine nx ?_
      refine wp_seq ?_
      refine wp_region_lit ?_
      refine sq (v := (.agg (chA c))) hF27 (wantedS rfl) (run_ldB rfl (hF27.ev 2 rfl) (hM4.at 1 rfl) Tryd.underlying26 rfl szCh (chA_size hLc)) rfl (by decide) fun a28 hF28 => ?_
      refine sq (v := (.string ⟨d.toArray⟩)) hF28 (wantedS rfl) (run_mv rfl (hF28.ev 1 rfl)) rfl (by decide) fun a29 hF29 => ?_
      refine sqC (v := (.tuple #[(.agg (chA ((sendS c d).1))), (.string ⟨((sendS c d).2.1).toArray⟩), (.int .i64 ((sendS c d).2.2))])) hF29 hM4 (wantedS rfl) (run_call rfl Tryd.func20 (by kernel_rfl) rfl (mapE2 (hF29.ev 34 rfl) (hF29.ev 35 rfl))) rfl (by decide) (rsend_any c d w4 hLc (by first | omega | decide | (simp; done) | (simp; omega)) (by first | omega | decide | (simp; done) | (simp; omega))) fun a30 w5 hb5 hF30 hM5 => ?_
      refine sq (v := (.tuple #[(.agg (chA ((sendS c d).1))), (.string ⟨((sendS c d).2.1).toArray⟩), (.int .i64 ((sendS c d).2.2))])) hF30 (wantedS rfl) (run_mv rfl (hF30.ev 36 rfl)) rfl (by decide) fun a31 hF31 => ?_
      refine sq (v := (.agg (chA ((sendS c d).1)))) hF31 (wantedS rfl) (run_ext rfl (hF31.ev 33 rfl) rfl) rfl (by decide) fun a32 hF32 => ?_
      refine sq (v := (.string ⟨((sendS c d).2.1).toArray⟩)) hF32 (wantedS rfl) (run_ext rfl (hF32.ev 33 rfl) rfl) rfl (by decide) fun a33 hF33 => ?_
      refine sq (v := (.int .i64 ((sendS c d).2.2))) hF33 (wantedS rfl) (run_ext rfl (hF33.ev 33 rfl) rfl) rfl (by decide) fun a34 hF34 => ?_
      refine sqNew (cs := (chA noCh)) (t := 26) hF34 hM5 (wantedS rfl) (run_alloc rfl (by kernel_rfl)) rfl (by decide) fun g2 a35 w6 hgg2 hb6 hF35 hM6 => ?_
      refine sqStore (i := 0) hF35 hM6 rfl rfl rfl (hF35.ev 8 rfl) (hF35.ev 37 rfl) rfl szCh (chA_size (sendS_k _ _)) (chA_size noCh_len) (chA_one _) fun a36 w7 hF36 hM7 => ?_
      refine sq (v := (.string ⟨((sendS c d).2.1).toArray⟩)) hF36 (wantedS rfl) (run_as rfl (hF36.ev 38 rfl)) rfl (by decide) fun a37 hF37 => ?_
      refine sq (v := (.int .i64 ((sendS c d).2.2))) hF37 (wantedS rfl) (run_as rfl (hF37.ev 39 rfl)) rfl (by decide) fun a38 hF38 => ?_
      refine sqEnd ?_
      clear hF27 hF28 hF29 hF30 hF31 hF32 hF33 hF34 hF35 hF36 hF37 hM4 hM5 hM6
      refine nx ?_
      refine wp_seq ?_
      refine wp_seq ?_
      obtain ⟨KL, hKL⟩ : ∃ KL, KL = [kval (.agg (chA ((sendS c d).1))), kval (.agg (chA ((sendS c d).1))), kval (.bool false), kval (.bool false), kval (.string ⟨((sendS c d).2.1).toArray⟩), kval (.string ⟨((sendS c d).2.1).toArray⟩), kval (.bool false), kval (.bool false), kval (.bool false), kval (.int .i64 ((sendS c d).2.2)), kval (.int .i64 ((sendS c d).2.2)), kval (.bool false), kval (.bool false), kval (.bool false), kval (.pointer (some ⟨g0, 2, none⟩)), kval (.agg (cells8 c.k)), kval (.agg (cells8 (nextS c.k))), kval (.pointer (some ⟨g0, 2, none⟩)), kval (.agg (cells8 c.k)), kval (.agg (cells8 (nextS c.k))), kval (.bool false), kval (.bool false)] := ⟨_, rfl⟩
      have K0 : KL.getD 0 kany = kval (.agg (chA ((sendS c d).1))) := by rw [hKL]; rfl
      have K1 : KL.getD 1 kany = kval (.agg (chA ((sendS c d).1))) := by rw [hKL]; rfl
      have K2 : KL.getD 2 kany = kval (.bool false) := by rw [hKL]; rfl
      have K3 : KL.getD 3 kany = kval (.bool false) := by rw [hKL]; rfl
      have K4 : KL.getD 4 kany = kval (.string ⟨((sendS c d).2.1).toArray⟩) := by rw [hKL]; rfl
      have K5 : KL.getD 5 kany = kval (.string ⟨((sendS c d).2.1).toArray⟩) := by rw [hKL]; rfl
      have K6 : KL.getD 6 kany = kval (.bool false) := by rw [hKL]; rfl
      have K7 : KL.getD 7 kany = kval (.bool false) := by rw [hKL]; rfl
      have K8 : KL.getD 8 kany = kval (.bool false) := by rw [hKL]; rfl
      have K9 : KL.getD 9 kany = kval (.int .i64 ((sendS c d).2.2)) := by rw [hKL]; rfl
      have K10 : KL.getD 10 kany = kval (.int .i64 ((sendS c d).2.2)) := by rw [hKL]; rfl
      have K11 : KL.getD 11 kany = kval (.bool false) := by rw [hKL]; rfl
      have K12 : KL.getD 12 kany = kval (.bool false) := by rw [hKL]; rfl
      have K13 : KL.getD 13 kany = kval (.bool false) := by rw [hKL]; rfl
      have K14 : KL.getD 14 kany = kval (.pointer (some ⟨g0, 2, none⟩)) := by rw [hKL]; rfl
      have K15 : KL.getD 15 kany = kval (.agg (cells8 c.k)) := by rw [hKL]; rfl
      have K16 : KL.getD 16 kany = kval (.agg (cells8 (nextS c.k))) := by rw [hKL]; rfl
      have K17 : KL.getD 17 kany = kval (.pointer (some ⟨g0, 2, none⟩)) := by rw [hKL]; rfl
      have K18 : KL.getD 18 kany = kval (.agg (cells8 c.k)) := by rw [hKL]; rfl
      have K19 : KL.getD 19 kany = kval (.agg (cells8 (nextS c.k))) := by rw [hKL]; rfl
      have K20 : KL.getD 20 kany = kval (.bool false) := by rw [hKL]; rfl
      have K21 : KL.getD 21 kany = kval (.bool false) := by rw [hKL]; rfl
      clear hKL
      refine wp_region_kd 82 (by kernel_rfl) (by kernel_rfl) (by kernel_rfl) hF38.size KL ?_ ?_
      · refine ⟨?_, ?_, ?_, ?_, ?_, ?_, ?_, ?_, ?_, ?_, ?_, ?_, ?_, ?_, ?_, ?_, ?_, ?_, ?_, ?_, ?_, ?_, trivial⟩
        · refine asks_mk fun a W hS hh hd => ⟨wanted_yes rfl, ?_⟩
          exact giv_run (run_ldB rfl (eval_tmp (hh 5 _ rfl (hF38.at 5 rfl))) ((hM7.grow hS).at 1 rfl) Tryd.underlying26 rfl szCh (chA_size (sendS_k _ _))) K0
        · refine asks_mk fun a W hS hh hd => ⟨wanted_yes rfl, ?_⟩
          exact giv_run (run_ldB rfl (eval_tmp (hh 8 _ rfl (hF38.at 8 rfl))) ((hM7.grow hS).at 0 rfl) Tryd.underlying26 rfl szCh (chA_size (sendS_k _ _))) K1
        · refine asks_mk fun a W hS hh hd => ⟨wanted_yes rfl, ?_⟩
          exact giv_run (run_neCh (sendS_k _ _) rfl (eval_tmp (hd.val (j := 0) (s := 40) (by kernel_rfl) K0)) (eval_tmp (hd.val (j := 1) (s := 41) (by kernel_rfl) K1))) K2
        · refine asks_mk fun a W hS hh hd => ⟨wanted_yes rfl, ?_⟩
          exact giv_run (run_mv rfl (eval_tmp (hd.val (j := 2) (s := 42) (by kernel_rfl) K2))) K3
        · refine asks_mk fun a W hS hh hd => ⟨wanted_of (j := 3) (s := 43) (by kernel_rfl) (hd.val (j := 3) (s := 43) (by kernel_rfl) K3), ?_⟩
          exact giv_run (run_mv rfl (eval_tmp (hh 6 _ rfl (hF38.at 6 rfl)))) K4
        · refine asks_mk fun a W hS hh hd => ⟨wanted_of (j := 3) (s := 43) (by kernel_rfl) (hd.val (j := 3) (s := 43) (by kernel_rfl) K3), ?_⟩
          exact giv_run (run_mv rfl (eval_tmp (hh 9 _ rfl (hF38.at 9 rfl)))) K5
        · refine asks_mk fun a W hS hh hd => ⟨wanted_of (j := 3) (s := 43) (by kernel_rfl) (hd.val (j := 3) (s := 43) (by kernel_rfl) K3), ?_⟩
          exact giv_run (run_nes rfl (eval_tmp (hd.val (j := 4) (s := 44) (by kernel_rfl) K4)) (eval_tmp (hd.val (j := 5) (s := 45) (by kernel_rfl) K5)) (by rw [beq_self_eq_true]; rfl)) K6
        · refine asks_mk fun a W hS hh hd => ⟨wanted_yes rfl, ?_⟩
          exact giv_run (run_pick rfl (eval_tmp (hd.val (j := 3) (s := 43) (by kernel_rfl) K3)) rfl (eval_tmp (hd.val (j := 6) (s := 46) (by kernel_rfl) K6))) K7
        · refine asks_mk fun a W hS hh hd => ⟨wanted_yes rfl, ?_⟩
          exact giv_run (run_mv rfl (eval_tmp (hd.val (j := 7) (s := 47) (by kernel_rfl) K7))) K8
        · refine asks_mk fun a W hS hh hd => ⟨wanted_of (j := 8) (s := 48) (by kernel_rfl) (hd.val (j := 8) (s := 48) (by kernel_rfl) K8), ?_⟩
          exact giv_run (run_mv rfl (eval_tmp (hh 7 _ rfl (hF38.at 7 rfl)))) K9
        · refine asks_mk fun a W hS hh hd => ⟨wanted_of (j := 8) (s := 48) (by kernel_rfl) (hd.val (j := 8) (s := 48) (by kernel_rfl) K8), ?_⟩
          exact giv_run (run_mv rfl (eval_tmp (hh 10 _ rfl (hF38.at 10 rfl)))) K10
        · refine asks_mk fun a W hS hh hd => ⟨wanted_of (j := 8) (s := 48) (by kernel_rfl) (hd.val (j := 8) (s := 48) (by kernel_rfl) K8), ?_⟩
          exact giv_run (run_nei rfl (eval_tmp (hd.val (j := 9) (s := 49) (by kernel_rfl) K9)) (eval_tmp (hd.val (j := 10) (s := 50) (by kernel_rfl) K10)) (bne_self_eq_false _)) K11
        · refine asks_mk fun a W hS hh hd => ⟨wanted_yes rfl, ?_⟩
          exact giv_run (run_pick rfl (eval_tmp (hd.val (j := 8) (s := 48) (by kernel_rfl) K8)) rfl (eval_tmp (hd.val (j := 11) (s := 51) (by kernel_rfl) K11))) K12
        · refine asks_mk fun a W hS hh hd => ⟨wanted_yes rfl, ?_⟩
          exact giv_run (run_mv rfl (eval_tmp (hd.val (j := 12) (s := 52) (by kernel_rfl) K12))) K13
        · refine asks_mk fun a W hS hh hd => ⟨wanted_of (j := 13) (s := 53) (by kernel_rfl) (hd.val (j := 13) (s := 53) (by kernel_rfl) K13), ?_⟩
          exact giv_run (run_fldA (m := 32) (s := 2) rfl (eval_tmp (hh 2 _ rfl (hF38.at 2 rfl))) Tryd.underlying26 rfl rfl (by kernel_rfl) (by decide)) K14
        · refine asks_mk fun a W hS hh hd => ⟨wanted_of (j := 13) (s := 53) (by kernel_rfl) (hd.val (j := 13) (s := 53) (by kernel_rfl) K13), ?_⟩
          exact giv_run (run_ldK rfl (eval_tmp (hd.val (j := 14) (s := 54) (by kernel_rfl) K14)) ((hM7.grow hS).at 2 rfl) hLc) K15
        · refine asks_mk fun a W hS hh hd => ⟨wanted_of (j := 13) (s := 53) (by kernel_rfl) (hd.val (j := 13) (s := 53) (by kernel_rfl) K13), ?_⟩
          exact giv_call (run_call rfl Tryd.func21 (by kernel_rfl) rfl (mapE1 (eval_tmp (hd.val (j := 15) (s := 55) (by kernel_rfl) K15)))) (next_any c.k W (HG.below (hM7.grow hS).below) hLc) K16
        · refine asks_mk fun a W hS hh hd => ⟨wanted_of (j := 13) (s := 53) (by kernel_rfl) (hd.val (j := 13) (s := 53) (by kernel_rfl) K13), ?_⟩
          exact giv_run (run_fldA (m := 32) (s := 2) rfl (eval_tmp (hh 2 _ rfl (hF38.at 2 rfl))) Tryd.underlying26 rfl rfl (by kernel_rfl) (by decide)) K17
        · refine asks_mk fun a W hS hh hd => ⟨wanted_of (j := 13) (s := 53) (by kernel_rfl) (hd.val (j := 13) (s := 53) (by kernel_rfl) K13), ?_⟩
          exact giv_run (run_ldK rfl (eval_tmp (hd.val (j := 17) (s := 57) (by kernel_rfl) K17)) ((hM7.grow hS).at 2 rfl) hLc) K18
        · refine asks_mk fun a W hS hh hd => ⟨wanted_of (j := 13) (s := 53) (by kernel_rfl) (hd.val (j := 13) (s := 53) (by kernel_rfl) K13), ?_⟩
          exact giv_call (run_call rfl Tryd.func22 (by kernel_rfl) rfl (mapE1 (eval_tmp (hd.val (j := 18) (s := 58) (by kernel_rfl) K18)))) (rnext_any c.k W hLc) K19
        · refine asks_mk fun a W hS hh hd => ⟨wanted_of (j := 13) (s := 53) (by kernel_rfl) (hd.val (j := 13) (s := 53) (by kernel_rfl) K13), ?_⟩
          exact giv_run (run_neKey (nextS_len _) rfl (eval_tmp (hd.val (j := 16) (s := 56) (by kernel_rfl) K16)) (eval_tmp (hd.val (j := 19) (s := 59) (by kernel_rfl) K19))) K20
        · refine asks_mk fun a W hS hh hd => ⟨wanted_yes rfl, ?_⟩
          exact giv_run (run_pick rfl (eval_tmp (hd.val (j := 13) (s := 53) (by kernel_rfl) K13)) rfl (eval_tmp (hd.val (j := 20) (s := 60) (by kernel_rfl) K20))) K21
      · intro a39 w8 hb8 hK
        have e0 := hK.val (i := 0) (s := 40) (by kernel_rfl) K0
        have e1 := hK.val (i := 1) (s := 41) (by kernel_rfl) K1
        have e2 := hK.val (i := 2) (s := 42) (by kernel_rfl) K2
        have e3 := hK.val (i := 3) (s := 43) (by kernel_rfl) K3
        have e4 := hK.val (i := 4) (s := 44) (by kernel_rfl) K4
        have e5 := hK.val (i := 5) (s := 45) (by kernel_rfl) K5
        have e6 := hK.val (i := 6) (s := 46) (by kernel_rfl) K6
        have e7 := hK.val (i := 7) (s := 47) (by kernel_rfl) K7
        have e8 := hK.val (i := 8) (s := 48) (by kernel_rfl) K8
        have e9 := hK.val (i := 9) (s := 49) (by kernel_rfl) K9
        have e10 := hK.val (i := 10) (s := 50) (by kernel_rfl) K10
        have e11 := hK.val (i := 11) (s := 51) (by kernel_rfl) K11
        have e12 := hK.val (i := 12) (s := 52) (by kernel_rfl) K12
        have e13 := hK.val (i := 13) (s := 53) (by kernel_rfl) K13
        have e14 := hK.val (i := 14) (s := 54) (by kernel_rfl) K14
        have e15 := hK.val (i := 15) (s := 55) (by kernel_rfl) K15
        have e16 := hK.val (i := 16) (s := 56) (by kernel_rfl) K16
        have e17 := hK.val (i := 17) (s := 57) (by kernel_rfl) K17
        have e18 := hK.val (i := 18) (s := 58) (by kernel_rfl) K18
        have e19 := hK.val (i := 19) (s := 59) (by kernel_rfl) K19
        have e20 := hK.val (i := 20) (s := 60) (by kernel_rfl) K20
        have e21 := hK.val (i := 21) (s := 61) (by kernel_rfl) K21
        have hF39 : Fr a39 82 [(0, (.agg (chA c))), (1, (.string ⟨d.toArray⟩)), (2, (.pointer (some ⟨g0, 0, none⟩))), (4, (.bool false)), (5, (.pointer (some ⟨g1, 0, none⟩))), (8, (.pointer (some ⟨g2, 0, none⟩))), (11, (.pointer (some ⟨g0, 0, none⟩))), (12, (.string ⟨c.m.toArray⟩)), (13, (.int .i64 (c.m.length : Int))), (14, (.bool false)), (15, (.bool false)), (16, (.string ⟨d.toArray⟩)), (17, (.int .i64 (d.length : Int))), (18, (.bool true)), (19, (.bool true)), (20, (.string ⟨d.toArray⟩)), (21, (.int .i64 (d.length : Int))), (22, (.bool false)), (23, (.bool false)), (24, (.bool false)), (26, (.tuple #[(.agg (chA ((sendS c d).1))), (.string ⟨((sendS c d).2.1).toArray⟩), (.int .i64 ((sendS c d).2.2))])), (27, (.agg (chA c))), (28, (.string ⟨d.toArray⟩)), (29, (.tuple #[(.agg (chA ((sendS c d).1))), (.string ⟨((sendS c d).2.1).toArray⟩), (.int .i64 ((sendS c d).2.2))])), (30, (.agg (chA ((sendS c d).1)))), (31, (.string ⟨((sendS c d).2.1).toArray⟩)), (32, (.int .i64 ((sendS c d).2.2))), (33, (.tuple #[(.agg (chA ((sendS c d).1))), (.string ⟨((sendS c d).2.1).toArray⟩), (.int .i64 ((sendS c d).2.2))])), (34, (.agg (chA c))), (35, (.string ⟨d.toArray⟩)), (36, (.tuple #[(.agg (chA ((sendS c d).1))), (.string ⟨((sendS c d).2.1).toArray⟩), (.int .i64 ((sendS c d).2.2))])), (37, (.agg (chA ((sendS c d).1)))), (38, (.string ⟨((sendS c d).2.1).toArray⟩)), (39, (.int .i64 ((sendS c d).2.2))), (61, (.bool false))] := (hK.fr hF38 [(.agg (chA ((sendS c d).1))), (.agg (chA ((sendS c d).1))), (.bool false), (.bool false), (.string ⟨((sendS c d).2.1).toArray⟩), (.string ⟨((sendS c d).2.1).toArray⟩), (.bool false), (.bool false), (.bool false), (.int .i64 ((sendS c d).2.2)), (.int .i64 ((sendS c d).2.2)), (.bool false), (.bool false), (.bool false), (.pointer (some ⟨g0, 2, none⟩)), (.agg (cells8 c.k)), (.agg (cells8 (nextS c.k))), (.pointer (some ⟨g0, 2, none⟩)), (.agg (cells8 c.k)), (.agg (cells8 (nextS c.k))), (.bool false), (.bool false)] ⟨e0, e1, e2, e3, e4, e5, e6, e7, e8, e9, e10, e11, e12, e13, e14, e15, e16, e17, e18, e19, e20, e21, trivial⟩).sub ⟨rfl, rfl, rfl, rfl, rfl, rfl, rfl, rfl, rfl, rfl, rfl, rfl, rfl, rfl, rfl, rfl, rfl, rfl, rfl, rfl, rfl, rfl, rfl, rfl, rfl, rfl, rfl, rfl, rfl, rfl, rfl, rfl, rfl, rfl, rfl, trivial⟩
        have hM8 := hM7.grow hb8
        clear hK K0 e0 K1 e1 K2 e2 K3 e3 K4 e4 K5 e5 K6 e6 K7 e7 K8 e8 K9 e9 K10 e10 K11 e11 K12 e12 K13 e13 K14 e14 K15 e15 K16 e16 K17 e17 K18 e18 K19 e19 K20 e20 K21 e21
        clear hF38 hM7
        refine nx ?_
        refine wp_cond_false (hF39.ev 61 rfl) ?_
        refine wp_skip ?_
        refine nx ?_
        refine wp_seq ?_
        refine wp_seq ?_
        refine wp_region_lit ?_
        refine sq (v := (.string ⟨d.toArray⟩)) hF39 (wantedS rfl) (run_mv rfl (hF39.ev 1 rfl)) rfl (by decide) fun a40 hF40 => ?_
        refine sq (v := (.int .i64 (d.length : Int))) hF40 (wantedS rfl) (run_len rfl (hF40.ev 62 rfl) rfl Tryd.underlying9) rfl (by decide) fun a41 hF41 => ?_
        refine sq (v := (.bool true)) hF41 (wantedS rfl) (run_gtr rfl (hF41.ev 63 rfl) rfl (decide_eq_true (by omega))) rfl (by decide) fun a42 hF42 => ?_
        refine sqEnd ?_
        clear hF39 hF40 hF41
        refine nx ?_
        refine wp_cond_true (hF42.ev 64 rfl) ?_
        refine wp_seq ?_
        refine wp_region_lit ?_
        refine sqC (v := (.bool true)) hF42 hM8 (wantedS rfl) (run_call rfl Tryd.func11 (by kernel_rfl) rfl (mapE0 )) rfl (by decide) (sfix_any w8 (HG.below hM8.below)) fun a43 w9 hb9 hF43 hM9 => ?_
        refine sq (v := (.bool true)) hF43 (wantedS rfl) (run_as rfl (hF43.ev 65 rfl)) rfl (by decide) fun a44 hF44 => ?_
        refine sqEnd ?_
        clear hF42 hF43 hM8
        refine nx ?_
        refine wp_ret ?_
        refine nxRet ?_
        exact ret1 hF44 rfl rfl ⟨rfl, hM9.below⟩
  · skip
    refine walk_enter Tryd.func7 rfl rfl rfl fun a0 hF0 => ?_
    have hM0 := Mem.new w
    refine wp_seq ?_
    refine wp_region_lit ?_
    refine sqNew (cs := (chA c)) (t := 26) hF0 hM0 (wantedS rfl) (run_box rfl (hF0.ev 0 rfl)) rfl (by decide) fun g0 a1 w1 hgg0 hb1 hF1 hM1 => ?_
    refine sq (v := (.bool false)) hF1 (wantedS rfl) (run_as rfl rfl) rfl (by decide) fun a2 hF2 => ?_
    refine sqEnd ?_
    clear hF0 hF1 hM0
    refine nx ?_
    refine wp_seq ?_
    refine wp_seq ?_
    refine wp_region_lit ?_
    refine sq (v := (.pointer (some ⟨g0, 0, none⟩))) hF2 (wantedS rfl) (run_fldA (m := 1) (s := 0) rfl (hF2.ev 2 rfl) Tryd.underlying26 rfl rfl (by kernel_rfl) (by decide)) rfl (by decide) fun a3 hF3 => ?_
    refine sq (v := (.string ⟨c.m.toArray⟩)) hF3 (wantedS rfl) (run_ldF rfl (hF3.ev 11 rfl) (hM1.at 0 rfl) rfl (by kernel_rfl)) rfl (by decide) fun a4 hF4 => ?_
    refine sq (v := (.int .i64 (c.m.length : Int))) hF4 (wantedS rfl) (run_len rfl (hF4.ev 12 rfl) rfl Tryd.underlying9) rfl (by decide) fun a5 hF5 => ?_
    refine sq (v := (.bool false)) hF5 (wantedS rfl) (run_gtr rfl (hF5.ev 13 rfl) rfl (decide_eq_false (by omega))) rfl (by decide) fun a6 hF6 => ?_
    refine sq (v := (.bool false)) hF6 (wantedS rfl) (run_mv rfl (hF6.ev 14 rfl)) rfl (by decide) fun a7 hF7 => ?_
    refine sq (v := (.string ⟨d.toArray⟩)) hF7 (wantedG hF7 rfl rfl rfl rfl rfl) (run_mv rfl (hF7.ev 1 rfl)) rfl (by decide) fun a8 hF8 => ?_
    refine sq (v := (.int .i64 (d.length : Int))) hF8 (wantedG hF8 rfl rfl rfl rfl rfl) (run_len rfl (hF8.ev 16 rfl) rfl Tryd.underlying9) rfl (by decide) fun a9 hF9 => ?_
    refine sq (v := (.bool false)) hF9 (wantedG hF9 rfl rfl rfl rfl rfl) (run_gtr rfl (hF9.ev 17 rfl) rfl (decide_eq_false (by omega))) rfl (by decide) fun a10 hF10 => ?_
    refine sq (v := (.bool false)) hF10 (wantedG hF10 rfl rfl rfl rfl rfl) (run_mv rfl (hF10.ev 18 rfl)) rfl (by decide) fun a11 hF11 => ?_
    refine sqSkip hF11 (unwantedG hF11 rfl rfl rfl rfl rfl) rfl (by decide) fun a12 hF12 => ?_
    refine sqSkip hF12 (unwantedG hF12 rfl rfl rfl rfl rfl) rfl (by decide) fun a13 hF13 => ?_
    refine sqSkip hF13 (unwantedG hF13 rfl rfl rfl rfl rfl) rfl (by decide) fun a14 hF14 => ?_
    refine sq (v := (.bool false)) hF14 (wantedG hF14 rfl rfl rfl rfl rfl) (run_pick rfl (hF14.ev 19 rfl) (hF14.ev 22 rfl) rfl) rfl (by decide) fun a15 hF15 => ?_
    refine sq (v := (.bool false)) hF15 (wantedS rfl) (run_pick rfl (hF15.ev 15 rfl) rfl (hF15.ev 23 rfl)) rfl (by decide) fun a16 hF16 => ?_
    refine sqEnd ?_
    clear hF2 hF3 hF4 hF5 hF6 hF7 hF8 hF9 hF10 hF11 hF12 hF13 hF14 hF15
    refine nx ?_
    refine wp_cond_false (hF16.ev 24 rfl) ?_
    refine wp_skip ?_
    refine nx ?_
    refine wp_seq ?_
    refine wp_region_lit ?_
    refine sq (v := (.agg (chA c))) hF16 (wantedS rfl) (run_ldB rfl (hF16.ev 2 rfl) (hM1.at 0 rfl) Tryd.underlying26 rfl szCh (chA_size hLc)) rfl (by decide) fun a17 hF17 => ?_
    refine sq (v := (.string ⟨d.toArray⟩)) hF17 (wantedS rfl) (run_mv rfl (hF17.ev 1 rfl)) rfl (by decide) fun a18 hF18 => ?_
    refine sqC (v := (.tuple #[(.agg (chA ((sendS c d).1))), (.string ⟨((sendS c d).2.1).toArray⟩), (.int .i64 ((sendS c d).2.2))])) hF18 hM1 (wantedS rfl) (run_call rfl Tryd.func12 (by kernel_rfl) rfl (mapE2 (hF18.ev 27 rfl) (hF18.ev 28 rfl))) rfl (by decide) (send_any c d w1 (HG.below hM1.below) hLc (by first | omega | decide | (simp; done) | (simp; omega)) (by first | omega | decide | (simp; done) | (simp; omega))) fun a19 w2 hb2 hF19 hM2 => ?_
    refine sq (v := (.tuple #[(.agg (chA ((sendS c d).1))), (.string ⟨((sendS c d).2.1).toArray⟩), (.int .i64 ((sendS c d).2.2))])) hF19 (wantedS rfl) (run_mv rfl (hF19.ev 29 rfl)) rfl (by decide) fun a20 hF20 => ?_
    refine sq (v := (.agg (chA ((sendS c d).1)))) hF20 (wantedS rfl) (run_ext rfl (hF20.ev 26 rfl) rfl) rfl (by decide) fun a21 hF21 => ?_
    refine sq (v := (.string ⟨((sendS c d).2.1).toArray⟩)) hF21 (wantedS rfl) (run_ext rfl (hF21.ev 26 rfl) rfl) rfl (by decide) fun a22 hF22 => ?_
    refine sq (v := (.int .i64 ((sendS c d).2.2))) hF22 (wantedS rfl) (run_ext rfl (hF22.ev 26 rfl) rfl) rfl (by decide) fun a23 hF23 => ?_
    refine sqNew (cs := (chA noCh)) (t := 26) hF23 hM2 (wantedS rfl) (run_alloc rfl (by kernel_rfl)) rfl (by decide) fun g1 a24 w3 hgg1 hb3 hF24 hM3 => ?_
    refine sqStore (i := 0) hF24 hM3 rfl rfl rfl (hF24.ev 5 rfl) (hF24.ev 30 rfl) rfl szCh (chA_size (sendS_k _ _)) (chA_size noCh_len) (chA_one _) fun a25 w4 hF25 hM4 => ?_
    refine sq (v := (.string ⟨((sendS c d).2.1).toArray⟩)) hF25 (wantedS rfl) (run_as rfl (hF25.ev 31 rfl)) rfl (by decide) fun a26 hF26 => ?_
    refine sq (v := (.int .i64 ((sendS c d).2.2))) hF26 (wantedS rfl) (run_as rfl (hF26.ev 32 rfl)) rfl (by decide) fun a27 hF27 => ?_
    refine sqEnd ?_
    clear hF16 hF17 hF18 hF19 hF20 hF21 hF22 hF23 hF24 hF25 hF26 hM1 hM2 hM3
    refine nx ?_
    refine wp_seq ?_
    refine wp_region_lit ?_
    refine sq (v := (.agg (chA c))) hF27 (wantedS rfl) (run_ldB rfl (hF27.ev 2 rfl) (hM4.at 1 rfl) Tryd.underlying26 rfl szCh (chA_size hLc)) rfl (by decide) fun a28 hF28 => ?_
    refine sq (v := (.string ⟨d.toArray⟩)) hF28 (wantedS rfl) (run_mv rfl (hF28.ev 1 rfl)) rfl (by decide) fun a29 hF29 => ?_
    refine sqC (v := (.tuple #[(.agg (chA ((sendS c d).1))), (.string ⟨((sendS c d).2.1).toArray⟩), (.int .i64 ((sendS c d).2.2))])) hF29 hM4 (wantedS rfl) (run_call rfl Tryd.func20 (by kernel_rfl) rfl (mapE2 (hF29.ev 34 rfl) (hF29.ev 35 rfl))) rfl (by decide) (rsend_any c d w4 hLc (by first | omega | decide | (simp; done) | (simp; omega)) (by first | omega | decide | (simp; done) | (simp; omega))) fun a30 w5 hb5 hF30 hM5 => ?_
    refine sq (v := (.tuple #[(.agg (chA ((sendS c d).1))), (.string ⟨((sendS c d).2.1).toArray⟩), (.int .i64 ((sendS c d).2.2))])) hF30 (wantedS rfl) (run_mv rfl (hF30.ev 36 rfl)) rfl (by decide) fun a31 hF31 => ?_
    refine sq (v := (.agg (chA ((sendS c d).1)))) hF31 (wantedS rfl) (run_ext rfl (hF31.ev 33 rfl) rfl) rfl (by decide) fun a32 hF32 => ?_
    refine sq (v := (.string ⟨((sendS c d).2.1).toArray⟩)) hF32 (wantedS rfl) (run_ext rfl (hF32.ev 33 rfl) rfl) rfl (by decide) fun a33 hF33 => ?_
    refine sq (v := (.int .i64 ((sendS c d).2.2))) hF33 (wantedS rfl) (run_ext rfl (hF33.ev 33 rfl) rfl) rfl (by decide) fun a34 hF34 => ?_
    refine sqNew (cs := (chA noCh)) (t := 26) hF34 hM5 (wantedS rfl) (run_alloc rfl (by kernel_rfl)) rfl (by decide) fun g2 a35 w6 hgg2 hb6 hF35 hM6 => ?_
    refine sqStore (i := 0) hF35 hM6 rfl rfl rfl (hF35.ev 8 rfl) (hF35.ev 37 rfl) rfl szCh (chA_size (sendS_k _ _)) (chA_size noCh_len) (chA_one _) fun a36 w7 hF36 hM7 => ?_
    refine sq (v := (.string ⟨((sendS c d).2.1).toArray⟩)) hF36 (wantedS rfl) (run_as rfl (hF36.ev 38 rfl)) rfl (by decide) fun a37 hF37 => ?_
    refine sq (v := (.int .i64 ((sendS c d).2.2))) hF37 (wantedS rfl) (run_as rfl (hF37.ev 39 rfl)) rfl (by decide) fun a38 hF38 => ?_
    refine sqEnd ?_
    clear hF27 hF28 hF29 hF30 hF31 hF32 hF33 hF34 hF35 hF36 hF37 hM4 hM5 hM6
    refine nx ?_
    refine wp_seq ?_
    refine wp_seq ?_
    obtain ⟨KL, hKL⟩ : ∃ KL, KL = [kval (.agg (chA ((sendS c d).1))), kval (.agg (chA ((sendS c d).1))), kval (.bool false), kval (.bool false), kval (.string ⟨((sendS c d).2.1).toArray⟩), kval (.string ⟨((sendS c d).2.1).toArray⟩), kval (.bool false), kval (.bool false), kval (.bool false), kval (.int .i64 ((sendS c d).2.2)), kval (.int .i64 ((sendS c d).2.2)), kval (.bool false), kval (.bool false), kval (.bool false), kval (.pointer (some ⟨g0, 2, none⟩)), kval (.agg (cells8 c.k)), kval (.agg (cells8 (nextS c.k))), kval (.pointer (some ⟨g0, 2, none⟩)), kval (.agg (cells8 c.k)), kval (.agg (cells8 (nextS c.k))), kval (.bool false), kval (.bool false)] := ⟨_, rfl⟩
    have K0 : KL.getD 0 kany = kval (.agg (chA ((sendS c d).1))) := by rw [hKL]; rfl
    have K1 : KL.getD 1 kany = kval (.agg (chA ((sendS c d).1))) := by rw [hKL]; rfl
    have K2 : KL.getD 2 kany = kval (.bool false) := by rw [hKL]; rfl
    have K3 : KL.getD 3 kany = kval (.bool false) := by rw [hKL]; rfl
    have K4 : KL.getD 4 kany = kval (.string ⟨((sendS c d).2.1).toArray⟩) := by rw [hKL]; rfl
    have K5 : KL.getD 5 kany = kval (.string ⟨((sendS c d).2.1).toArray⟩) := by rw [hKL]; rfl
    have K6 : KL.getD 6 kany = kval (.bool false) := by rw [hKL]; rfl
    have K7 : KL.getD 7 kany = kval (.bool false) := by rw [hKL]; rfl
    have K8 : KL.getD 8 kany = kval (.bool false) := by rw [hKL]; rfl
    have K9 : KL.getD 9 kany = kval (.int .i64 ((sendS c d).2.2)) := by rw [hKL]; rfl
    have K10 : KL.getD 10 kany = kval (.int .i64 ((sendS c d).2.2)) := by rw [hKL]; rfl
    have K11 : KL.getD 11 kany = kval (.bool false) := by rw [hKL]; rfl
    have K12 : KL.getD 12 kany = kval (.bool false) := by rw [hKL]; rfl
    have K13 : KL.getD 13 kany = kval (.bool false) := by rw [hKL]; rfl
    have K14 : KL.getD 14 kany = kval (.pointer (some ⟨g0, 2, none⟩)) := by rw [hKL]; rfl
    have K15 : KL.getD 15 kany = kval (.agg (cells8 c.k)) := by rw [hKL]; rfl
    have K16 : KL.getD 16 kany = kval (.agg (cells8 (nextS c.k))) := by rw [hKL]; rfl
    have K17 : KL.getD 17 kany = kval (.pointer (some ⟨g0, 2, none⟩)) := by rw [hKL]; rfl
    have K18 : KL.getD 18 kany = kval (.agg (cells8 c.k)) := by rw [hKL]; rfl
    have K19 : KL.getD 19 kany = kval (.agg (cells8 (nextS c.k))) := by rw [hKL]; rfl
    have K20 : KL.getD 20 kany = kval (.bool false) := by rw [hKL]; rfl
    have K21 : KL.getD 21 kany = kval (.bool false) := by rw [hKL]; rfl
    clear hKL
    refine wp_region_kd 82 (by kernel_rfl) (by kernel_rfl) (by kernel_rfl) hF38.size KL ?_ ?_
    · refine ⟨?_, ?_, ?_, ?_, ?_, ?_, ?_, ?_, ?_, ?_, ?_, ?_, ?_, ?_, ?_, ?_, ?_, ?_, ?_, ?_, ?_, ?_, trivial⟩
      · refine asks_mk fun a W hS hh hd => ⟨wanted_yes rfl, ?_⟩
        exact giv_run (run_ldB rfl (eval_tmp (hh 5 _ rfl (hF38.at 5 rfl))) ((hM7.grow hS).at 1 rfl) Tryd.underlying26 rfl szCh (chA_size (sendS_k _ _))) K0
      · refine asks_mk fun a W hS hh hd => ⟨wanted_yes rfl, ?_⟩
        exact giv_run (run_ldB rfl (eval_tmp (hh 8 _ rfl (hF38.at 8 rfl))) ((hM7.grow hS).at 0 rfl) Tryd.underlying26 rfl szCh (chA_size (sendS_k _ _))) K1
      · refine asks_mk fun a W hS hh hd => ⟨wanted_yes rfl, ?_⟩
        exact giv_run (run_neCh (sendS_k _ _) rfl (eval_tmp (hd.val (j := 0) (s := 40) (by kernel_rfl) K0)) (eval_tmp (hd.val (j := 1) (s := 41) (by kernel_rfl) K1))) K2
      · refine asks_mk fun a W hS hh hd => ⟨wanted_yes rfl, ?_⟩
        exact giv_run (run_mv rfl (eval_tmp (hd.val (j := 2) (s := 42) (by kernel_rfl) K2))) K3
      · refine asks_mk fun a W hS hh hd => ⟨wanted_of (j := 3) (s := 43) (by kernel_rfl) (hd.val (j := 3) (s := 43) (by kernel_rfl) K3), ?_⟩
        exact giv_run (run_mv rfl (eval_tmp (hh 6 _ rfl (hF38.at 6 rfl)))) K4
      · refine asks_mk fun a W hS hh hd => ⟨wanted_of (j := 3) (s := 43) (by kernel_rfl) (hd.val (j := 3) (s := 43) (by kernel_rfl) K3), ?_⟩
        exact giv_run (run_mv rfl (eval_tmp (hh 9 _ rfl (hF38.at 9 rfl)))) K5
      · refine asks_mk fun a W hS hh hd => ⟨wanted_of (j := 3) (s := 43) (by kernel_rfl) (hd.val (j := 3) (s := 43) (by kernel_rfl) K3), ?_⟩
        exact giv_run (run_nes rfl (eval_tmp (hd.val (j := 4) (s := 44) (by kernel_rfl) K4)) (eval_tmp (hd.val (j := 5) (s := 45) (by kernel_rfl) K5)) (by rw [beq_self_eq_true]; rfl)) K6
      · refine asks_mk fun a W hS hh hd => ⟨wanted_yes rfl, ?_⟩
        exact giv_run (run_pick rfl (eval_tmp (hd.val (j := 3) (s := 43) (by kernel_rfl) K3)) rfl (eval_tmp (hd.val (j := 6) (s := 46) (by kernel_rfl) K6))) K7
      · refine asks_mk fun a W hS hh hd => ⟨wanted_yes rfl, ?_⟩
        exact giv_run (run_mv rfl (eval_tmp (hd.val (j := 7) (s := 47) (by kernel_rfl) K7))) K8
      · refine asks_mk fun a W hS hh hd => ⟨wanted_of (j := 8) (s := 48) (by kernel_rfl) (hd.val (j := 8) (s := 48) (by kernel_rfl) K8), ?_⟩
        exact giv_run (run_mv rfl (eval_tmp (hh 7 _ rfl (hF38.at 7 rfl)))) K9
      · refine asks_mk fun a W hS hh hd => ⟨wanted_of (j := 8) (s := 48) (by kernel_rfl) (hd.val (j := 8) (s := 48) (by kernel_rfl) K8), ?_⟩
        exact giv_run (run_mv rfl (eval_tmp (hh 10 _ rfl (hF38.at 10 rfl)))) K10
      · refine asks_mk fun a W hS hh hd => ⟨wanted_of (j := 8) (s := 48) (by kernel_rfl) (hd.val (j := 8) (s := 48) (by kernel_rfl) K8), ?_⟩
        exact giv_run (run_nei rfl (eval_tmp (hd.val (j := 9) (s := 49) (by kernel_rfl) K9)) (eval_tmp (hd.val (j := 10) (s := 50) (by kernel_rfl) K10)) (bne_self_eq_false _)) K11
      · refine asks_mk fun a W hS hh hd => ⟨wanted_yes rfl, ?_⟩
        exact giv_run (run_pick rfl (eval_tmp (hd.val (j := 8) (s := 48) (by kernel_rfl) K8)) rfl (eval_tmp (hd.val (j := 11) (s := 51) (by kernel_rfl) K11))) K12
      · refine asks_mk fun a W hS hh hd => ⟨wanted_yes rfl, ?_⟩
        exact giv_run (run_mv rfl (eval_tmp (hd.val (j := 12) (s := 52) (by kernel_rfl) K12))) K13
      · refine asks_mk fun a W hS hh hd => ⟨wanted_of (j := 13) (s := 53) (by kernel_rfl) (hd.val (j := 13) (s := 53) (by kernel_rfl) K13), ?_⟩
        exact giv_run (run_fldA (m := 32) (s := 2) rfl (eval_tmp (hh 2 _ rfl (hF38.at 2 rfl))) Tryd.underlying26 rfl rfl (by kernel_rfl) (by decide)) K14
      · refine asks_mk fun a W hS hh hd => ⟨wanted_of (j := 13) (s := 53) (by kernel_rfl) (hd.val (j := 13) (s := 53) (by kernel_rfl) K13), ?_⟩
        exact giv_run (run_ldK rfl (eval_tmp (hd.val (j := 14) (s := 54) (by kernel_rfl) K14)) ((hM7.grow hS).at 2 rfl) hLc) K15
      · refine asks_mk fun a W hS hh hd => ⟨wanted_of (j := 13) (s := 53) (by kernel_rfl) (hd.val (j := 13) (s := 53) (by kernel_rfl) K13), ?_⟩
        exact giv_call (run_call rfl Tryd.func21 (by kernel_rfl) rfl (mapE1 (eval_tmp (hd.val (j := 15) (s := 55) (by kernel_rfl) K15)))) (next_any c.k W (HG.below (hM7.grow hS).below) hLc) K16
      · refine asks_mk fun a W hS hh hd => ⟨wanted_of (j := 13) (s := 53) (by kernel_rfl) (hd.val (j := 13) (s := 53) (by kernel_rfl) K13), ?_⟩
        exact giv_run (run_fldA (m := 32) (s := 2) rfl (eval_tmp (hh 2 _ rfl (hF38.at 2 rfl))) Tryd.underlying26 rfl rfl (by kernel_rfl) (by decide)) K17
      · refine asks_mk fun a W hS hh hd => ⟨wanted_of (j := 13) (s := 53) (by kernel_rfl) (hd.val (j := 13) (s := 53) (by kernel_rfl) K13), ?_⟩
        exact giv_run (run_ldK rfl (eval_tmp (hd.val (j := 17) (s := 57) (by kernel_rfl) K17)) ((hM7.grow hS).at 2 rfl) hLc) K18
      · refine asks_mk fun a W hS hh hd => ⟨wanted_of (j := 13) (s := 53) (by kernel_rfl) (hd.val (j := 13) (s := 53) (by kernel_rfl) K13), ?_⟩
        exact giv_call (run_call rfl Tryd.func22 (by kernel_rfl) rfl (mapE1 (eval_tmp (hd.val (j := 18) (s := 58) (by kernel_rfl) K18)))) (rnext_any c.k W hLc) K19
      · refine asks_mk fun a W hS hh hd => ⟨wanted_of (j := 13) (s := 53) (by kernel_rfl) (hd.val (j := 13) (s := 53) (by kernel_rfl) K13), ?_⟩
        exact giv_run (run_neKey (nextS_len _) rfl (eval_tmp (hd.val (j := 16) (s := 56) (by kernel_rfl) K16)) (eval_tmp (hd.val (j := 19) (s := 59) (by kernel_rfl) K19))) K20
      · refine asks_mk fun a W hS hh hd => ⟨wanted_yes rfl, ?_⟩
        exact giv_run (run_pick rfl (eval_tmp (hd.val (j := 13) (s := 53) (by kernel_rfl) K13)) rfl (eval_tmp (hd.val (j := 20) (s := 60) (by kernel_rfl) K20))) K21
    · intro a39 w8 hb8 hK
      have e0 := hK.val (i := 0) (s := 40) (by kernel_rfl) K0
      have e1 := hK.val (i := 1) (s := 41) (by kernel_rfl) K1
      have e2 := hK.val (i := 2) (s := 42) (by kernel_rfl) K2
      have e3 := hK.val (i := 3) (s := 43) (by kernel_rfl) K3
      have e4 := hK.val (i := 4) (s := 44) (by kernel_rfl) K4
      have e5 := hK.val (i := 5) (s := 45) (by kernel_rfl) K5
      have e6 := hK.val (i := 6) (s := 46) (by kernel_rfl) K6
      have e7 := hK.val (i := 7) (s := 47) (by kernel_rfl) K7
      have e8 := hK.val (i := 8) (s := 48) (by kernel_rfl) K8
      have e9 := hK.val (i := 9) (s := 49) (by kernel_rfl) K9
      have e10 := hK.val (i := 10) (s := 50) (by kernel_rfl) K10
      have e11 := hK.val (i := 11) (s := 51) (by kernel_rfl) K11
      have e12 := hK.val (i := 12) (s := 52) (by kernel_rfl) K12
      have e13 := hK.val (i := 13) (s := 53) (by kernel_rfl) K13
      have e14 := hK.val (i := 14) (s := 54) (by kernel_rfl) K14
      have e15 := hK.val (i := 15) (s := 55) (by kernel_rfl) K15
      have e16 := hK.val (i := 16) (s := 56) (by kernel_rfl) K16
      have e17 := hK.val (i := 17) (s := 57) (by kernel_rfl) K17
      have e18 := hK.val (i := 18) (s := 58) (by kernel_rfl) K18
      have e19 := hK.val (i := 19) (s := 59) (by kernel_rfl) K19
      have e20 := hK.val (i := 20) (s := 60) (by kernel_rfl) K20
      have e21 := hK.val (i := 21) (s := 61) (by kernel_rfl) K21
      have hF39 : Fr a39 82 [(0, (.agg (chA c))), (1, (.string ⟨d.toArray⟩)), (2, (.pointer (some ⟨g0, 0, none⟩))), (4, (.bool false)), (5, (.pointer (some ⟨g1, 0, none⟩))), (8, (.pointer (some ⟨g2, 0, none⟩))), (11, (.pointer (some ⟨g0, 0, none⟩))), (12, (.string ⟨c.m.toArray⟩)), (13, (.int .i64 (c.m.length : Int))), (14, (.bool false)), (15, (.bool false)), (16, (.string ⟨d.toArray⟩)), (17, (.int .i64 (d.length : Int))), (18, (.bool false)), (19, (.bool false)), (23, (.bool false)), (24, (.bool false)), (26, (.tuple #[(.agg (chA ((sendS c d).1))), (.string ⟨((sendS c d).2.1).toArray⟩), (.int .i64 ((sendS c d).2.2))])), (27, (.agg (chA c))), (28, (.string ⟨d.toArray⟩)), (29, (.tuple #[(.agg (chA ((sendS c d).1))), (.string ⟨((sendS c d).2.1).toArray⟩), (.int .i64 ((sendS c d).2.2))])), (30, (.agg (chA ((sendS c d).1)))), (31, (.string ⟨((sendS c d).2.1).toArray⟩)), (32, (.int .i64 ((sendS c d).2.2))), (33, (.tuple #[(.agg (chA ((sendS c d).1))), (.string ⟨((sendS c d).2.1).toArray⟩), (.int .i64 ((sendS c d).2.2))])), (34, (.agg (chA c))), (35, (.string ⟨d.toArray⟩)), (36, (.tuple #[(.agg (chA ((sendS c d).1))), (.string ⟨((sendS c d).2.1).toArray⟩), (.int .i64 ((sendS c d).2.2))])), (37, (.agg (chA ((sendS c d).1)))), (38, (.string ⟨((sendS c d).2.1).toArray⟩)), (39, (.int .i64 ((sendS c d).2.2))), (61, (.bool false))] := (hK.fr hF38 [(.agg (chA ((sendS c d).1))), (.agg (chA ((sendS c d).1))), (.bool false), (.bool false), (.string ⟨((sendS c d).2.1).toArray⟩), (.string ⟨((sendS c d).2.1).toArray⟩), (.bool false), (.bool false), (.bool false), (.int .i64 ((sendS c d).2.2)), (.int .i64 ((sendS c d).2.2)), (.bool false), (.bool false), (.bool false), (.pointer (some ⟨g0, 2, none⟩)), (.agg (cells8 c.k)), (.agg (cells8 (nextS c.k))), (.pointer (some ⟨g0, 2, none⟩)), (.agg (cells8 c.k)), (.agg (cells8 (nextS c.k))), (.bool false), (.bool false)] ⟨e0, e1, e2, e3, e4, e5, e6, e7, e8, e9, e10, e11, e12, e13, e14, e15, e16, e17, e18, e19, e20, e21, trivial⟩).sub ⟨rfl, rfl, rfl, rfl, rfl, rfl, rfl, rfl, rfl, rfl, rfl, rfl, rfl, rfl, rfl, rfl, rfl, rfl, rfl, rfl, rfl, rfl, rfl, rfl, rfl, rfl, rfl, rfl, rfl, rfl, rfl, rfl, trivial⟩
      have hM8 := hM7.grow hb8
      clear hK K0 e0 K1 e1 K2 e2 K3 e3 K4 e4 K5 e5 K6 e6 K7 e7 K8 e8 K9 e9 K10 e10 K11 e11 K12 e12 K13 e13 K14 e14 K15 e15 K16 e16 K17 e17 K18 e18 K19 e19 K20 e20 K21 e21
      clear hF38 hM7
      refine nx ?_
      refine wp_cond_false (hF39.ev 61 rfl) ?_
      refine wp_skip ?_
      refine nx ?_
      refine wp_seq ?_
      refine wp_seq ?_
      refine wp_region_lit ?_
      refine sq (v := (.string ⟨d.toArray⟩)) hF39 (wantedS rfl) (run_mv rfl (hF39.ev 1 rfl)) rfl (by decide) fun a40 hF40 => ?_
      refine sq (v := (.int .i64 (d.length : Int))) hF40 (wantedS rfl) (run_len rfl (hF40.ev 62 rfl) rfl Tryd.underlying9) rfl (by decide) fun a41 hF41 => ?_
      refine sq (v := (.bool false)) hF41 (wantedS rfl) (run_gtr rfl (hF41.ev 63 rfl) rfl (decide_eq_false (by omega))) rfl (by decide) fun a42 hF42 => ?_
      refine sqEnd ?_
      clear hF39 hF40 hF41
      refine nx ?_
      refine wp_cond_false (hF42.ev 64 rfl) ?_
      refine wp_skip ?_
      refine nx ?_
      refine wp_seq ?_
      obtain ⟨KL, hKL⟩ : ∃ KL, KL = [kval (.bool true), kval (.bool true), kval (.pointer (some ⟨g0, 2, none⟩)), kval (.agg (cells8 c.k)), kval (.pointer (some ⟨g0, 1, none⟩)), kval (.int .u64 (c.n : Int)), kval (.string ⟨d.toArray⟩), kval (.string ⟨(replyS c.k c.n d).toArray⟩), kval (.pointer (some ⟨g0, 2, none⟩)), kval (.agg (cells8 c.k)), kval (.pointer (some ⟨g0, 1, none⟩)), kval (.int .u64 (c.n : Int)), kval (.string ⟨d.toArray⟩), kval (.string ⟨(replyS c.k c.n d).toArray⟩), kval (.bool true), kval (.bool true), kval (.bool true)] := ⟨_, rfl⟩
      have K0 : KL.getD 0 kany = kval (.bool true) := by rw [hKL]; rfl
      have K1 : KL.getD 1 kany = kval (.bool true) := by rw [hKL]; rfl
      have K2 : KL.getD 2 kany = kval (.pointer (some ⟨g0, 2, none⟩)) := by rw [hKL]; rfl
      have K3 : KL.getD 3 kany = kval (.agg (cells8 c.k)) := by rw [hKL]; rfl
      have K4 : KL.getD 4 kany = kval (.pointer (some ⟨g0, 1, none⟩)) := by rw [hKL]; rfl
      have K5 : KL.getD 5 kany = kval (.int .u64 (c.n : Int)) := by rw [hKL]; rfl
      have K6 : KL.getD 6 kany = kval (.string ⟨d.toArray⟩) := by rw [hKL]; rfl
      have K7 : KL.getD 7 kany = kval (.string ⟨(replyS c.k c.n d).toArray⟩) := by rw [hKL]; rfl
      have K8 : KL.getD 8 kany = kval (.pointer (some ⟨g0, 2, none⟩)) := by rw [hKL]; rfl
      have K9 : KL.getD 9 kany = kval (.agg (cells8 c.k)) := by rw [hKL]; rfl
      have K10 : KL.getD 10 kany = kval (.pointer (some ⟨g0, 1, none⟩)) := by rw [hKL]; rfl
      have K11 : KL.getD 11 kany = kval (.int .u64 (c.n : Int)) := by rw [hKL]; rfl
      have K12 : KL.getD 12 kany = kval (.string ⟨d.toArray⟩) := by rw [hKL]; rfl
      have K13 : KL.getD 13 kany = kval (.string ⟨(replyS c.k c.n d).toArray⟩) := by rw [hKL]; rfl
      have K14 : KL.getD 14 kany = kval (.bool true) := by rw [hKL]; rfl
      have K15 : KL.getD 15 kany = kval (.bool true) := by rw [hKL]; rfl
      have K16 : KL.getD 16 kany = kval (.bool true) := by rw [hKL]; rfl
      clear hKL
      refine wp_region_kd 82 (by kernel_rfl) (by kernel_rfl) (by kernel_rfl) hF42.size KL ?_ ?_
      · refine ⟨?_, ?_, ?_, ?_, ?_, ?_, ?_, ?_, ?_, ?_, ?_, ?_, ?_, ?_, ?_, ?_, ?_, trivial⟩
        · refine asks_mk fun a W hS hh hd => ⟨wanted_yes rfl, ?_⟩
          exact giv_call (run_call rfl Tryd.func11 (by kernel_rfl) rfl (mapE0 )) (sfix_any W (HG.below (hM8.grow hS).below)) K0
        · refine asks_mk fun a W hS hh hd => ⟨wanted_yes rfl, ?_⟩
          exact giv_run (run_mv rfl (eval_tmp (hd.val (j := 0) (s := 66) (by kernel_rfl) K0))) K1
        · refine asks_mk fun a W hS hh hd => ⟨wanted_of (j := 1) (s := 67) (by kernel_rfl) (hd.val (j := 1) (s := 67) (by kernel_rfl) K1), ?_⟩
          exact giv_run (run_fldA (m := 32) (s := 2) rfl (eval_tmp (hh 2 _ rfl (hF42.at 2 rfl))) Tryd.underlying26 rfl rfl (by kernel_rfl) (by decide)) K2
        · refine asks_mk fun a W hS hh hd => ⟨wanted_of (j := 1) (s := 67) (by kernel_rfl) (hd.val (j := 1) (s := 67) (by kernel_rfl) K1), ?_⟩
          exact giv_run (run_ldK rfl (eval_tmp (hd.val (j := 2) (s := 68) (by kernel_rfl) K2)) ((hM8.grow hS).at 2 rfl) hLc) K3
        · refine asks_mk fun a W hS hh hd => ⟨wanted_of (j := 1) (s := 67) (by kernel_rfl) (hd.val (j := 1) (s := 67) (by kernel_rfl) K1), ?_⟩
          exact giv_run (run_fldA (m := 1) (s := 1) rfl (eval_tmp (hh 2 _ rfl (hF42.at 2 rfl))) Tryd.underlying26 rfl rfl (by kernel_rfl) (by decide)) K4
        · refine asks_mk fun a W hS hh hd => ⟨wanted_of (j := 1) (s := 67) (by kernel_rfl) (hd.val (j := 1) (s := 67) (by kernel_rfl) K1), ?_⟩
          exact giv_run (run_ldF rfl (eval_tmp (hd.val (j := 4) (s := 70) (by kernel_rfl) K4)) ((hM8.grow hS).at 2 rfl) rfl (by kernel_rfl)) K5
        · refine asks_mk fun a W hS hh hd => ⟨wanted_of (j := 1) (s := 67) (by kernel_rfl) (hd.val (j := 1) (s := 67) (by kernel_rfl) K1), ?_⟩
          exact giv_run (run_mv rfl (eval_tmp (hh 1 _ rfl (hF42.at 1 rfl)))) K6
        · refine asks_mk fun a W hS hh hd => ⟨wanted_of (j := 1) (s := 67) (by kernel_rfl) (hd.val (j := 1) (s := 67) (by kernel_rfl) K1), ?_⟩
          exact giv_call (run_call rfl Tryd.func23 (by kernel_rfl) rfl (mapE3 (eval_tmp (hd.val (j := 3) (s := 69) (by kernel_rfl) K3)) (eval_tmp (hd.val (j := 5) (s := 71) (by kernel_rfl) K5)) (eval_tmp (hd.val (j := 6) (s := 72) (by kernel_rfl) K6)))) (reply_any c.k c.n d W (HG.below (hM8.grow hS).below) hLc (by first | omega | decide | (simp; done) | (simp; omega))) K7
        · refine asks_mk fun a W hS hh hd => ⟨wanted_of (j := 1) (s := 67) (by kernel_rfl) (hd.val (j := 1) (s := 67) (by kernel_rfl) K1), ?_⟩
          exact giv_run (run_fldA (m := 32) (s := 2) rfl (eval_tmp (hh 2 _ rfl (hF42.at 2 rfl))) Tryd.underlying26 rfl rfl (by kernel_rfl) (by decide)) K8
        · refine asks_mk fun a W hS hh hd => ⟨wanted_of (j := 1) (s := 67) (by kernel_rfl) (hd.val (j := 1) (s := 67) (by kernel_rfl) K1), ?_⟩
          exact giv_run (run_ldK rfl (eval_tmp (hd.val (j := 8) (s := 74) (by kernel_rfl) K8)) ((hM8.grow hS).at 2 rfl) hLc) K9
        · refine asks_mk fun a W hS hh hd => ⟨wanted_of (j := 1) (s := 67) (by kernel_rfl) (hd.val (j := 1) (s := 67) (by kernel_rfl) K1), ?_⟩
          exact giv_run (run_fldA (m := 1) (s := 1) rfl (eval_tmp (hh 2 _ rfl (hF42.at 2 rfl))) Tryd.underlying26 rfl rfl (by kernel_rfl) (by decide)) K10
        · refine asks_mk fun a W hS hh hd => ⟨wanted_of (j := 1) (s := 67) (by kernel_rfl) (hd.val (j := 1) (s := 67) (by kernel_rfl) K1), ?_⟩
          exact giv_run (run_ldF rfl (eval_tmp (hd.val (j := 10) (s := 76) (by kernel_rfl) K10)) ((hM8.grow hS).at 2 rfl) rfl (by kernel_rfl)) K11
        · refine asks_mk fun a W hS hh hd => ⟨wanted_of (j := 1) (s := 67) (by kernel_rfl) (hd.val (j := 1) (s := 67) (by kernel_rfl) K1), ?_⟩
          exact giv_run (run_mv rfl (eval_tmp (hh 1 _ rfl (hF42.at 1 rfl)))) K12
        · refine asks_mk fun a W hS hh hd => ⟨wanted_of (j := 1) (s := 67) (by kernel_rfl) (hd.val (j := 1) (s := 67) (by kernel_rfl) K1), ?_⟩
          exact giv_call (run_call rfl Tryd.func24 (by kernel_rfl) rfl (mapE3 (eval_tmp (hd.val (j := 9) (s := 75) (by kernel_rfl) K9)) (eval_tmp (hd.val (j := 11) (s := 77) (by kernel_rfl) K11)) (eval_tmp (hd.val (j := 12) (s := 78) (by kernel_rfl) K12)))) (rreply_any c.k c.n d W hLc (by omega) (by first | omega | decide | (simp; done) | (simp; omega))) K13
        · refine asks_mk fun a W hS hh hd => ⟨wanted_of (j := 1) (s := 67) (by kernel_rfl) (hd.val (j := 1) (s := 67) (by kernel_rfl) K1), ?_⟩
          exact giv_run (run_eqs rfl (eval_tmp (hd.val (j := 7) (s := 73) (by kernel_rfl) K7)) (eval_tmp (hd.val (j := 13) (s := 79) (by kernel_rfl) K13)) (beq_self_eq_true _)) K14
        · refine asks_mk fun a W hS hh hd => ⟨wanted_yes rfl, ?_⟩
          exact giv_run (run_pick rfl (eval_tmp (hd.val (j := 1) (s := 67) (by kernel_rfl) K1)) (eval_tmp (hd.val (j := 14) (s := 80) (by kernel_rfl) K14)) rfl) K15
        · refine asks_mk fun a W hS hh hd => ⟨wanted_yes rfl, ?_⟩
          exact giv_run (run_as rfl (eval_tmp (hd.val (j := 15) (s := 81) (by kernel_rfl) K15))) K16
      · intro a43 w9 hb9 hK
        have e0 := hK.val (i := 0) (s := 66) (by kernel_rfl) K0
        have e1 := hK.val (i := 1) (s := 67) (by kernel_rfl) K1
        have e2 := hK.val (i := 2) (s := 68) (by kernel_rfl) K2
        have e3 := hK.val (i := 3) (s := 69) (by kernel_rfl) K3
        have e4 := hK.val (i := 4) (s := 70) (by kernel_rfl) K4
        have e5 := hK.val (i := 5) (s := 71) (by kernel_rfl) K5
        have e6 := hK.val (i := 6) (s := 72) (by kernel_rfl) K6
        have e7 := hK.val (i := 7) (s := 73) (by kernel_rfl) K7
        have e8 := hK.val (i := 8) (s := 74) (by kernel_rfl) K8
        have e9 := hK.val (i := 9) (s := 75) (by kernel_rfl) K9
        have e10 := hK.val (i := 10) (s := 76) (by kernel_rfl) K10
        have e11 := hK.val (i := 11) (s := 77) (by kernel_rfl) K11
        have e12 := hK.val (i := 12) (s := 78) (by kernel_rfl) K12
        have e13 := hK.val (i := 13) (s := 79) (by kernel_rfl) K13
        have e14 := hK.val (i := 14) (s := 80) (by kernel_rfl) K14
        have e15 := hK.val (i := 15) (s := 81) (by kernel_rfl) K15
        have e16 := hK.val (i := 16) (s := 4) (by kernel_rfl) K16
        have hF43 : Fr a43 82 [(0, (.agg (chA c))), (1, (.string ⟨d.toArray⟩)), (2, (.pointer (some ⟨g0, 0, none⟩))), (4, (.bool true)), (5, (.pointer (some ⟨g1, 0, none⟩))), (8, (.pointer (some ⟨g2, 0, none⟩))), (11, (.pointer (some ⟨g0, 0, none⟩))), (12, (.string ⟨c.m.toArray⟩)), (13, (.int .i64 (c.m.length : Int))), (14, (.bool false)), (15, (.bool false)), (16, (.string ⟨d.toArray⟩)), (17, (.int .i64 (d.length : Int))), (18, (.bool false)), (19, (.bool false)), (23, (.bool false)), (24, (.bool false)), (26, (.tuple #[(.agg (chA ((sendS c d).1))), (.string ⟨((sendS c d).2.1).toArray⟩), (.int .i64 ((sendS c d).2.2))])), (27, (.agg (chA c))), (28, (.string ⟨d.toArray⟩)), (29, (.tuple #[(.agg (chA ((sendS c d).1))), (.string ⟨((sendS c d).2.1).toArray⟩), (.int .i64 ((sendS c d).2.2))])), (30, (.agg (chA ((sendS c d).1)))), (31, (.string ⟨((sendS c d).2.1).toArray⟩)), (32, (.int .i64 ((sendS c d).2.2))), (33, (.tuple #[(.agg (chA ((sendS c d).1))), (.string ⟨((sendS c d).2.1).toArray⟩), (.int .i64 ((sendS c d).2.2))])), (34, (.agg (chA c))), (35, (.string ⟨d.toArray⟩)), (36, (.tuple #[(.agg (chA ((sendS c d).1))), (.string ⟨((sendS c d).2.1).toArray⟩), (.int .i64 ((sendS c d).2.2))])), (37, (.agg (chA ((sendS c d).1)))), (38, (.string ⟨((sendS c d).2.1).toArray⟩)), (39, (.int .i64 ((sendS c d).2.2))), (61, (.bool false)), (62, (.string ⟨d.toArray⟩)), (63, (.int .i64 (d.length : Int))), (64, (.bool false))] := (hK.fr hF42 [(.bool true), (.bool true), (.pointer (some ⟨g0, 2, none⟩)), (.agg (cells8 c.k)), (.pointer (some ⟨g0, 1, none⟩)), (.int .u64 (c.n : Int)), (.string ⟨d.toArray⟩), (.string ⟨(replyS c.k c.n d).toArray⟩), (.pointer (some ⟨g0, 2, none⟩)), (.agg (cells8 c.k)), (.pointer (some ⟨g0, 1, none⟩)), (.int .u64 (c.n : Int)), (.string ⟨d.toArray⟩), (.string ⟨(replyS c.k c.n d).toArray⟩), (.bool true), (.bool true), (.bool true)] ⟨e0, e1, e2, e3, e4, e5, e6, e7, e8, e9, e10, e11, e12, e13, e14, e15, e16, trivial⟩).sub ⟨rfl, rfl, rfl, rfl, rfl, rfl, rfl, rfl, rfl, rfl, rfl, rfl, rfl, rfl, rfl, rfl, rfl, rfl, rfl, rfl, rfl, rfl, rfl, rfl, rfl, rfl, rfl, rfl, rfl, rfl, rfl, rfl, rfl, rfl, rfl, trivial⟩
        have hM9 := hM8.grow hb9
        clear hK K0 e0 K1 e1 K2 e2 K3 e3 K4 e4 K5 e5 K6 e6 K7 e7 K8 e8 K9 e9 K10 e10 K11 e11 K12 e12 K13 e13 K14 e14 K15 e15 K16 e16
        clear hF42 hM8
        refine nx ?_
        refine wp_ret ?_
        exact ret1 hF43 rfl rfl ⟨rfl, hM9.below⟩
end Go.Proofs.YtioioibcldgknaaDoor
