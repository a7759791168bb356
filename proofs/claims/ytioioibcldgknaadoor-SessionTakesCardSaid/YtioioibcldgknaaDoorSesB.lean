/- The walk of the law SessionTakes. Printed by gen_ses4.py. -/
import Derived.Test.YtioioibcldgknaaDoorSes4
import Derived.Test.YtioioibcldgknaaDoorSes3
namespace Go.Proofs.YtioioibcldgknaaDoor
open Go.RowKit

attribute [local simp] xorS_len tagS_len keyedS_len nonceS_len
set_option maxRecDepth 100000 in
set_option maxHeartbeats 1000000 in
theorem lawSTakes_any (c : Ch) (f : List UInt8) (w : World) (HG : Glob w) (hLc : c.k.length = 32) (hcn : c.n < 2 ^ 64) (hf : f.length ≤ maxLen) : Calls Tryd.prog 8 #[.agg (chA c), .string ⟨f.toArray⟩] w fun e w' => e = .returned (.bool true) ∧ Below w.heap.size w w' := by
  unfold maxLen at *
  by_cases h1 : 100 < c.m.length
  · skip
    refine walk_enter Tryd.func8 rfl rfl rfl fun a0 hF0 => ?_
    have hM0 := Mem.new w
    refine wp_seq ?_
    refine wp_region_lit ?_
    refine sqNew (cs := (chA c)) (t := 26) hF0 hM0 (wantedS rfl) (run_box rfl (hF0.ev 0 rfl)) rfl (by decide) fun g0 a1 w1 hgg0 hb1 hF1 hM1 => ?_
    refine sq (v := (.bool false)) hF1 (wantedS rfl) (run_as rfl rfl) rfl (by decide) fun a2 hF2 => ?_
    refine sqEnd ?_
    clear hF0 hF1 hM0
    refine nx ?_
    refine wp_seq ?_
    refine wp_seq ?_
    refine wp_region_lit ?_
    refine sq (v := (.pointer (some ⟨g0, 0, none⟩))) hF2 (wantedS rfl) (run_fldA (m := 1) (s := 0) rfl (hF2.ev 2 rfl) Tryd.underlying26 rfl rfl (by kernel_rfl) (by decide)) rfl (by decide) fun a3 hF3 => ?_
    refine sq (v := (.string ⟨c.m.toArray⟩)) hF3 (wantedS rfl) (run_ldF rfl (hF3.ev 15 rfl) (hM1.at 0 rfl) rfl (by kernel_rfl)) rfl (by decide) fun a4 hF4 => ?_
    refine sq (v := (.int .i64 (c.m.length : Int))) hF4 (wantedS rfl) (run_len rfl (hF4.ev 16 rfl) rfl Tryd.underlying9) rfl (by decide) fun a5 hF5 => ?_
    refine sq (v := (.bool true)) hF5 (wantedS rfl) (run_gtr rfl (hF5.ev 17 rfl) rfl (decide_eq_true (by omega))) rfl (by decide) fun a6 hF6 => ?_
    refine sq (v := (.bool true)) hF6 (wantedS rfl) (run_mv rfl (hF6.ev 18 rfl)) rfl (by decide) fun a7 hF7 => ?_
    refine sqSkip hF7 (unwantedG hF7 rfl rfl rfl rfl rfl) rfl (by decide) fun a8 hF8 => ?_
    refine sqSkip hF8 (unwantedG hF8 rfl rfl rfl rfl rfl) rfl (by decide) fun a9 hF9 => ?_
    refine sqSkip hF9 (unwantedG hF9 rfl rfl rfl rfl rfl) rfl (by decide) fun a10 hF10 => ?_
    refine sq (v := (.bool true)) hF10 (wantedS rfl) (run_pick rfl (hF10.ev 19 rfl) rfl (hF10.ev 22 rfl)) rfl (by decide) fun a11 hF11 => ?_
    refine sqEnd ?_
    clear hF2 hF3 hF4 hF5 hF6 hF7 hF8 hF9 hF10
    refine nx ?_
    refine wp_cond_true (hF11.ev 23 rfl) ?_
    refine wp_seq ?_
    refine wp_region_lit ?_
    refine sqC (v := (.bool true)) hF11 hM1 (wantedS rfl) (run_call rfl Tryd.func11 (by kernel_rfl) rfl (mapE0 )) rfl (by decide) (sfix_any w1 (HG.below hM1.below)) fun a12 w2 hb2 hF12 hM2 => ?_
    refine sq (v := (.bool true)) hF12 (wantedS rfl) (run_as rfl (hF12.ev 24 rfl)) rfl (by decide) fun a13 hF13 => ?_
    refine sqEnd ?_
    clear hF11 hF12 hM1
    refine nx ?_
    refine wp_ret ?_
    refine nxRet ?_
    exact ret1 hF13 rfl rfl ⟨rfl, hM2.below⟩
  by_cases h2 : 600 < f.length
  · skip
    refine walk_enter Tryd.func8 rfl rfl rfl fun a0 hF0 => ?_
    have hM0 := Mem.new w
    refine wp_seq ?_
    refine wp_region_lit ?_
    refine sqNew (cs := (chA c)) (t := 26) hF0 hM0 (wantedS rfl) (run_box rfl (hF0.ev 0 rfl)) rfl (by decide) fun g0 a1 w1 hgg0 hb1 hF1 hM1 => ?_
    refine sq (v := (.bool false)) hF1 (wantedS rfl) (run_as rfl rfl) rfl (by decide) fun a2 hF2 => ?_
    refine sqEnd ?_
    clear hF0 hF1 hM0
    refine nx ?_
    refine wp_seq ?_
    refine wp_seq ?_
    refine wp_region_lit ?_
    refine sq (v := (.pointer (some ⟨g0, 0, none⟩))) hF2 (wantedS rfl) (run_fldA (m := 1) (s := 0) rfl (hF2.ev 2 rfl) Tryd.underlying26 rfl rfl (by kernel_rfl) (by decide)) rfl (by decide) fun a3 hF3 => ?_
    refine sq (v := (.string ⟨c.m.toArray⟩)) hF3 (wantedS rfl) (run_ldF rfl (hF3.ev 15 rfl) (hM1.at 0 rfl) rfl (by kernel_rfl)) rfl (by decide) fun a4 hF4 => ?_
    refine sq (v := (.int .i64 (c.m.length : Int))) hF4 (wantedS rfl) (run_len rfl (hF4.ev 16 rfl) rfl Tryd.underlying9) rfl (by decide) fun a5 hF5 => ?_
    refine sq (v := (.bool false)) hF5 (wantedS rfl) (run_gtr rfl (hF5.ev 17 rfl) rfl (decide_eq_false (by omega))) rfl (by decide) fun a6 hF6 => ?_
    refine sq (v := (.bool false)) hF6 (wantedS rfl) (run_mv rfl (hF6.ev 18 rfl)) rfl (by decide) fun a7 hF7 => ?_
    refine sq (v := (.string ⟨f.toArray⟩)) hF7 (wantedG hF7 rfl rfl rfl rfl rfl) (run_mv rfl (hF7.ev 1 rfl)) rfl (by decide) fun a8 hF8 => ?_
    refine sq (v := (.int .i64 (f.length : Int))) hF8 (wantedG hF8 rfl rfl rfl rfl rfl) (run_len rfl (hF8.ev 20 rfl) rfl Tryd.underlying9) rfl (by decide) fun a9 hF9 => ?_
    refine sq (v := (.bool true)) hF9 (wantedG hF9 rfl rfl rfl rfl rfl) (run_gtr rfl (hF9.ev 21 rfl) rfl (decide_eq_true (by omega))) rfl (by decide) fun a10 hF10 => ?_
    refine sq (v := (.bool true)) hF10 (wantedS rfl) (run_pick rfl (hF10.ev 19 rfl) rfl (hF10.ev 22 rfl)) rfl (by decide) fun a11 hF11 => ?_
    refine sqEnd ?_
    clear hF2 hF3 hF4 hF5 hF6 hF7 hF8 hF9 hF10
    refine nx ?_
    refine wp_cond_true (hF11.ev 23 rfl) ?_
    refine wp_seq ?_
    refine wp_region_lit ?_
    refine sqC (v := (.bool true)) hF11 hM1 (wantedS rfl) (run_call rfl Tryd.func11 (by kernel_rfl) rfl (mapE0 )) rfl (by decide) (sfix_any w1 (HG.below hM1.below)) fun a12 w2 hb2 hF12 hM2 => ?_
    refine sq (v := (.bool true)) hF12 (wantedS rfl) (run_as rfl (hF12.ev 24 rfl)) rfl (by decide) fun a13 hF13 => ?_
    refine sqEnd ?_
    clear hF11 hF12 hM1
    refine nx ?_
    refine wp_ret ?_
    refine nxRet ?_
    exact ret1 hF13 rfl rfl ⟨rfl, hM2.below⟩
  refine walk_enter Tryd.func8 rfl rfl rfl fun a0 hF0 => ?_
  have hM0 := Mem.new w
  refine wp_seq ?_
  refine wp_region_lit ?_
  refine sqNew (cs := (chA c)) (t := 26) hF0 hM0 (wantedS rfl) (run_box rfl (hF0.ev 0 rfl)) rfl (by decide) fun g0 a1 w1 hgg0 hb1 hF1 hM1 => ?_
  refine sq (v := (.bool false)) hF1 (wantedS rfl) (run_as rfl rfl) rfl (by decide) fun a2 hF2 => ?_
  refine sqEnd ?_
  clear hF0 hF1 hM0
  refine nx ?_
  refine wp_seq ?_
  refine wp_seq ?_
  refine wp_region_lit ?_
  refine sq (v := (.pointer (some ⟨g0, 0, none⟩))) hF2 (wantedS rfl) (run_fldA (m := 1) (s := 0) rfl (hF2.ev 2 rfl) Tryd.underlying26 rfl rfl (by kernel_rfl) (by decide)) rfl (by decide) fun a3 hF3 => ?_
  refine sq (v := (.string ⟨c.m.toArray⟩)) hF3 (wantedS rfl) (run_ldF rfl (hF3.ev 15 rfl) (hM1.at 0 rfl) rfl (by kernel_rfl)) rfl (by decide) fun a4 hF4 => ?_
  refine sq (v := (.int .i64 (c.m.length : Int))) hF4 (wantedS rfl) (run_len rfl (hF4.ev 16 rfl) rfl Tryd.underlying9) rfl (by decide) fun a5 hF5 => ?_
  refine sq (v := (.bool false)) hF5 (wantedS rfl) (run_gtr rfl (hF5.ev 17 rfl) rfl (decide_eq_false (by omega))) rfl (by decide) fun a6 hF6 => ?_
  refine sq (v := (.bool false)) hF6 (wantedS rfl) (run_mv rfl (hF6.ev 18 rfl)) rfl (by decide) fun a7 hF7 => ?_
  refine sq (v := (.string ⟨f.toArray⟩)) hF7 (wantedG hF7 rfl rfl rfl rfl rfl) (run_mv rfl (hF7.ev 1 rfl)) rfl (by decide) fun a8 hF8 => ?_
  refine sq (v := (.int .i64 (f.length : Int))) hF8 (wantedG hF8 rfl rfl rfl rfl rfl) (run_len rfl (hF8.ev 20 rfl) rfl Tryd.underlying9) rfl (by decide) fun a9 hF9 => ?_
  refine sq (v := (.bool false)) hF9 (wantedG hF9 rfl rfl rfl rfl rfl) (run_gtr rfl (hF9.ev 21 rfl) rfl (decide_eq_false (by omega))) rfl (by decide) fun a10 hF10 => ?_
  refine sq (v := (.bool false)) hF10 (wantedS rfl) (run_pick rfl (hF10.ev 19 rfl) rfl (hF10.ev 22 rfl)) rfl (by decide) fun a11 hF11 => ?_
  refine sqEnd ?_
  clear hF2 hF3 hF4 hF5 hF6 hF7 hF8 hF9 hF10
  refine nx ?_
  refine wp_cond_false (hF11.ev 23 rfl) ?_
  refine wp_skip ?_
  refine nx ?_
  refine wp_seq ?_
  refine wp_region_lit ?_
  refine sq (v := (.agg (chA c))) hF11 (wantedS rfl) (run_ldB rfl (hF11.ev 2 rfl) (hM1.at 0 rfl) Tryd.underlying26 rfl szCh (chA_size hLc)) rfl (by decide) fun a12 hF12 => ?_
  refine sq (v := (.string ⟨f.toArray⟩)) hF12 (wantedS rfl) (run_mv rfl (hF12.ev 1 rfl)) rfl (by decide) fun a13 hF13 => ?_
  refine sqC (v := (.tuple #[(.agg (chA ((takeS c f).1))), (.string ⟨((takeS c f).2.1).toArray⟩), (.int .i64 ((takeS c f).2.2))])) hF13 hM1 (wantedS rfl) (run_call rfl Tryd.func13 (by kernel_rfl) rfl (mapE2 (hF13.ev 26 rfl) (hF13.ev 27 rfl))) rfl (by decide) (stake_any c f w1 (HG.below hM1.below) hLc (by first | omega | decide | (simp; done) | (simp; omega)) (by first | omega | decide | (simp; done) | (simp; omega)) (by first | omega | decide | (simp; done) | (simp; omega))) fun a14 w2 hb2 hF14 hM2 => ?_
  refine sq (v := (.tuple #[(.agg (chA ((takeS c f).1))), (.string ⟨((takeS c f).2.1).toArray⟩), (.int .i64 ((takeS c f).2.2))])) hF14 (wantedS rfl) (run_mv rfl (hF14.ev 28 rfl)) rfl (by decide) fun a15 hF15 => ?_
  refine sq (v := (.agg (chA ((takeS c f).1)))) hF15 (wantedS rfl) (run_ext rfl (hF15.ev 25 rfl) rfl) rfl (by decide) fun a16 hF16 => ?_
  refine sq (v := (.string ⟨((takeS c f).2.1).toArray⟩)) hF16 (wantedS rfl) (run_ext rfl (hF16.ev 25 rfl) rfl) rfl (by decide) fun a17 hF17 => ?_
  refine sq (v := (.int .i64 ((takeS c f).2.2))) hF17 (wantedS rfl) (run_ext rfl (hF17.ev 25 rfl) rfl) rfl (by decide) fun a18 hF18 => ?_
  refine sqNew (cs := (chA noCh)) (t := 26) hF18 hM2 (wantedS rfl) (run_alloc rfl (by kernel_rfl)) rfl (by decide) fun g1 a19 w3 hgg1 hb3 hF19 hM3 => ?_
  refine sqStore (i := 0) hF19 hM3 rfl rfl rfl (hF19.ev 5 rfl) (hF19.ev 29 rfl) rfl szCh (chA_size (takeS_k _ _)) (chA_size noCh_len) (chA_one _) fun a20 w4 hF20 hM4 => ?_
  refine sq (v := (.string ⟨((takeS c f).2.1).toArray⟩)) hF20 (wantedS rfl) (run_as rfl (hF20.ev 30 rfl)) rfl (by decide) fun a21 hF21 => ?_
  refine sq (v := (.int .i64 ((takeS c f).2.2))) hF21 (wantedS rfl) (run_as rfl (hF21.ev 31 rfl)) rfl (by decide) fun a22 hF22 => ?_
  refine sqEnd ?_
  clear hF11 hF12 hF13 hF14 hF15 hF16 hF17 hF18 hF19 hF20 hF21 hM1 hM2 hM3
  refine nx ?_
  refine wp_seq ?_
  refine wp_region_lit ?_
  refine sq (v := (.agg (chA c))) hF22 (wantedS rfl) (run_ldB rfl (hF22.ev 2 rfl) (hM4.at 1 rfl) Tryd.underlying26 rfl szCh (chA_size hLc)) rfl (by decide) fun a23 hF23 => ?_
  refine sq (v := (.string ⟨f.toArray⟩)) hF23 (wantedS rfl) (run_mv rfl (hF23.ev 1 rfl)) rfl (by decide) fun a24 hF24 => ?_
  refine sqC (v := (.tuple #[(.agg (chA ((takeS c f).1))), (.string ⟨((takeS c f).2.1).toArray⟩), (.int .i64 ((takeS c f).2.2))])) hF24 hM4 (wantedS rfl) (run_call rfl Tryd.func19 (by kernel_rfl) rfl (mapE2 (hF24.ev 33 rfl) (hF24.ev 34 rfl))) rfl (by decide) (rstake_any c f w4 hLc (by first | omega | decide | (simp; done) | (simp; omega)) (by first | omega | decide | (simp; done) | (simp; omega)) (by first | omega | decide | (simp; done) | (simp; omega))) fun a25 w5 hb5 hF25 hM5 => ?_
  refine sq (v := (.tuple #[(.agg (chA ((takeS c f).1))), (.string ⟨((takeS c f).2.1).toArray⟩), (.int .i64 ((takeS c f).2.2))])) hF25 (wantedS rfl) (run_mv rfl (hF25.ev 35 rfl)) rfl (by decide) fun a26 hF26 => ?_
  refine sq (v := (.agg (chA ((takeS c f).1)))) hF26 (wantedS rfl) (run_ext rfl (hF26.ev 32 rfl) rfl) rfl (by decide) fun a27 hF27 => ?_
  refine sq (v := (.string ⟨((takeS c f).2.1).toArray⟩)) hF27 (wantedS rfl) (run_ext rfl (hF27.ev 32 rfl) rfl) rfl (by decide) fun a28 hF28 => ?_
  refine sq (v := (.int .i64 ((takeS c f).2.2))) hF28 (wantedS rfl) (run_ext rfl (hF28.ev 32 rfl) rfl) rfl (by decide) fun a29 hF29 => ?_
  refine sqNew (cs := (chA noCh)) (t := 26) hF29 hM5 (wantedS rfl) (run_alloc rfl (by kernel_rfl)) rfl (by decide) fun g2 a30 w6 hgg2 hb6 hF30 hM6 => ?_
  refine sqStore (i := 0) hF30 hM6 rfl rfl rfl (hF30.ev 8 rfl) (hF30.ev 36 rfl) rfl szCh (chA_size (takeS_k _ _)) (chA_size noCh_len) (chA_one _) fun a31 w7 hF31 hM7 => ?_
  refine sq (v := (.string ⟨((takeS c f).2.1).toArray⟩)) hF31 (wantedS rfl) (run_as rfl (hF31.ev 37 rfl)) rfl (by decide) fun a32 hF32 => ?_
  refine sq (v := (.int .i64 ((takeS c f).2.2))) hF32 (wantedS rfl) (run_as rfl (hF32.ev 38 rfl)) rfl (by decide) fun a33 hF33 => ?_
  refine sqEnd ?_
  clear hF22 hF23 hF24 hF25 hF26 hF27 hF28 hF29 hF30 hF31 hF32 hM4 hM5 hM6
  refine nx ?_
  refine wp_seq ?_
  refine wp_region_lit ?_
  refine sq (v := (.pointer (some ⟨g0, 2, none⟩))) hF33 (wantedS rfl) (run_fldA (m := 32) (s := 2) rfl (hF33.ev 2 rfl) Tryd.underlying26 rfl rfl (by kernel_rfl) (by decide)) rfl (by decide) fun a34 hF34 => ?_
  refine sq (v := (.agg (cells8 c.k))) hF34 (wantedS rfl) (run_ldK rfl (hF34.ev 40 rfl) (hM7.at 2 rfl) hLc) rfl (by decide) fun a35 hF35 => ?_
  refine sq (v := (.pointer (some ⟨g0, 1, none⟩))) hF35 (wantedS rfl) (run_fldA (m := 1) (s := 1) rfl (hF35.ev 2 rfl) Tryd.underlying26 rfl rfl (by kernel_rfl) (by decide)) rfl (by decide) fun a36 hF36 => ?_
  refine sq (v := (.int .u64 (c.n : Int))) hF36 (wantedS rfl) (run_ldF rfl (hF36.ev 42 rfl) (hM7.at 2 rfl) rfl (by kernel_rfl)) rfl (by decide) fun a37 hF37 => ?_
  refine sq (v := (.string ⟨f.toArray⟩)) hF37 (wantedS rfl) (run_mv rfl (hF37.ev 1 rfl)) rfl (by decide) fun a38 hF38 => ?_
  refine sqC (v := (.tuple #[(.string ⟨((answerS c.k c.n f).1).toArray⟩), (.int .i64 ((answerS c.k c.n f).2))])) hF38 hM7 (wantedS rfl) (run_call rfl Tryd.func25 (by kernel_rfl) rfl (mapE3 (hF38.ev 41 rfl) (hF38.ev 43 rfl) (hF38.ev 44 rfl))) rfl (by decide) (answer_any c.k c.n f w7 (HG.below hM7.below) hLc (by first | omega | decide | (simp; done) | (simp; omega))) fun a39 w8 hb8 hF39 hM8 => ?_
  refine sq (v := (.tuple #[(.string ⟨((answerS c.k c.n f).1).toArray⟩), (.int .i64 ((answerS c.k c.n f).2))])) hF39 (wantedS rfl) (run_mv rfl (hF39.ev 45 rfl)) rfl (by decide) fun a40 hF40 => ?_
  refine sq (v := (.string ⟨((answerS c.k c.n f).1).toArray⟩)) hF40 (wantedS rfl) (run_ext rfl (hF40.ev 39 rfl) rfl) rfl (by decide) fun a41 hF41 => ?_
  refine sq (v := (.int .i64 ((answerS c.k c.n f).2))) hF41 (wantedS rfl) (run_ext rfl (hF41.ev 39 rfl) rfl) rfl (by decide) fun a42 hF42 => ?_
  refine sq (v := (.string ⟨((answerS c.k c.n f).1).toArray⟩)) hF42 (wantedS rfl) (run_as rfl (hF42.ev 46 rfl)) rfl (by decide) fun a43 hF43 => ?_
  refine sq (v := (.int .i64 ((answerS c.k c.n f).2))) hF43 (wantedS rfl) (run_as rfl (hF43.ev 47 rfl)) rfl (by decide) fun a44 hF44 => ?_
  refine sqEnd ?_
  clear hF33 hF34 hF35 hF36 hF37 hF38 hF39 hF40 hF41 hF42 hF43 hM7
  refine nx ?_
  refine wp_seq ?_
  refine wp_region_lit ?_
  refine sq (v := (.pointer (some ⟨g0, 2, none⟩))) hF44 (wantedS rfl) (run_fldA (m := 32) (s := 2) rfl (hF44.ev 2 rfl) Tryd.underlying26 rfl rfl (by kernel_rfl) (by decide)) rfl (by decide) fun a45 hF45 => ?_
  refine sq (v := (.agg (cells8 c.k))) hF45 (wantedS rfl) (run_ldK rfl (hF45.ev 49 rfl) (hM8.at 2 rfl) hLc) rfl (by decide) fun a46 hF46 => ?_
  refine sq (v := (.pointer (some ⟨g0, 1, none⟩))) hF46 (wantedS rfl) (run_fldA (m := 1) (s := 1) rfl (hF46.ev 2 rfl) Tryd.underlying26 rfl rfl (by kernel_rfl) (by decide)) rfl (by decide) fun a47 hF47 => ?_
  refine sq (v := (.int .u64 (c.n : Int))) hF47 (wantedS rfl) (run_ldF rfl (hF47.ev 51 rfl) (hM8.at 2 rfl) rfl (by kernel_rfl)) rfl (by decide) fun a48 hF48 => ?_
  refine sq (v := (.string ⟨f.toArray⟩)) hF48 (wantedS rfl) (run_mv rfl (hF48.ev 1 rfl)) rfl (by decide) fun a49 hF49 => ?_
  refine sqC (v := (.tuple #[(.string ⟨((answerS c.k c.n f).1).toArray⟩), (.int .i64 ((answerS c.k c.n f).2))])) hF49 hM8 (wantedS rfl) (run_call rfl Tryd.func26 (by kernel_rfl) rfl (mapE3 (hF49.ev 50 rfl) (hF49.ev 52 rfl) (hF49.ev 53 rfl))) rfl (by decide) (ranswer_any c.k c.n f w8 hLc (by omega) (by first | omega | decide | (simp; done) | (simp; omega))) fun a50 w9 hb9 hF50 hM9 => ?_
  refine sq (v := (.tuple #[(.string ⟨((answerS c.k c.n f).1).toArray⟩), (.int .i64 ((answerS c.k c.n f).2))])) hF50 (wantedS rfl) (run_mv rfl (hF50.ev 54 rfl)) rfl (by decide) fun a51 hF51 => ?_
  refine sq (v := (.string ⟨((answerS c.k c.n f).1).toArray⟩)) hF51 (wantedS rfl) (run_ext rfl (hF51.ev 48 rfl) rfl) rfl (by decide) fun a52 hF52 => ?_
  refine sq (v := (.int .i64 ((answerS c.k c.n f).2))) hF52 (wantedS rfl) (run_ext rfl (hF52.ev 48 rfl) rfl) rfl (by decide) fun a53 hF53 => ?_
  refine sq (v := (.string ⟨((answerS c.k c.n f).1).toArray⟩)) hF53 (wantedS rfl) (run_as rfl (hF53.ev 55 rfl)) rfl (by decide) fun a54 hF54 => ?_
  refine sq (v := (.int .i64 ((answerS c.k c.n f).2))) hF54 (wantedS rfl) (run_as rfl (hF54.ev 56 rfl)) rfl (by decide) fun a55 hF55 => ?_
  refine sqEnd ?_
  clear hF44 hF45 hF46 hF47 hF48 hF49 hF50 hF51 hF52 hF53 hF54 hM8
  refine nx ?_
  refine wp_seq ?_
  refine wp_region_lit ?_
  refine sqC (v := (.bool true)) hF55 hM9 (wantedS rfl) (run_call rfl Tryd.func11 (by kernel_rfl) rfl (mapE0 )) rfl (by decide) (sfix_any w9 (HG.below hM9.below)) fun a56 w10 hb10 hF56 hM10 => ?_
  refine sq (v := (.bool true)) hF56 (wantedS rfl) (run_mv rfl (hF56.ev 57 rfl)) rfl (by decide) fun a57 hF57 => ?_
  refine sq (v := (.agg (chA ((takeS c f).1)))) hF57 (wantedG hF57 rfl rfl rfl rfl rfl) (run_ldB rfl (hF57.ev 5 rfl) (hM10.at 1 rfl) Tryd.underlying26 rfl szCh (chA_size (takeS_k _ _))) rfl (by decide) fun a58 hF58 => ?_
  refine sq (v := (.agg (chA ((takeS c f).1)))) hF58 (wantedG hF58 rfl rfl rfl rfl rfl) (run_ldB rfl (hF58.ev 8 rfl) (hM10.at 0 rfl) Tryd.underlying26 rfl szCh (chA_size (takeS_k _ _))) rfl (by decide) fun a59 hF59 => ?_
  refine sq (v := (.bool true)) hF59 (wantedG hF59 rfl rfl rfl rfl rfl) (run_eqCh (takeS_k _ _) rfl (hF59.ev 59 rfl) (hF59.ev 60 rfl)) rfl (by decide) fun a60 hF60 => ?_
  refine sq (v := (.bool true)) hF60 (wantedS rfl) (run_pick rfl (hF60.ev 58 rfl) (hF60.ev 61 rfl) rfl) rfl (by decide) fun a61 hF61 => ?_
  refine sq (v := (.bool true)) hF61 (wantedS rfl) (run_mv rfl (hF61.ev 62 rfl)) rfl (by decide) fun a62 hF62 => ?_
  refine sq (v := (.string ⟨((takeS c f).2.1).toArray⟩)) hF62 (wantedG hF62 rfl rfl rfl rfl rfl) (run_mv rfl (hF62.ev 6 rfl)) rfl (by decide) fun a63 hF63 => ?_
  refine sq (v := (.string ⟨((takeS c f).2.1).toArray⟩)) hF63 (wantedG hF63 rfl rfl rfl rfl rfl) (run_mv rfl (hF63.ev 9 rfl)) rfl (by decide) fun a64 hF64 => ?_
  refine sq (v := (.bool true)) hF64 (wantedG hF64 rfl rfl rfl rfl rfl) (run_eqs rfl (hF64.ev 64 rfl) (hF64.ev 65 rfl) (beq_self_eq_true _)) rfl (by decide) fun a65 hF65 => ?_
  refine sq (v := (.bool true)) hF65 (wantedS rfl) (run_pick rfl (hF65.ev 63 rfl) (hF65.ev 66 rfl) rfl) rfl (by decide) fun a66 hF66 => ?_
  refine sq (v := (.bool true)) hF66 (wantedS rfl) (run_mv rfl (hF66.ev 67 rfl)) rfl (by decide) fun a67 hF67 => ?_
  refine sq (v := (.int .i64 ((takeS c f).2.2))) hF67 (wantedG hF67 rfl rfl rfl rfl rfl) (run_mv rfl (hF67.ev 7 rfl)) rfl (by decide) fun a68 hF68 => ?_
  refine sq (v := (.int .i64 ((takeS c f).2.2))) hF68 (wantedG hF68 rfl rfl rfl rfl rfl) (run_mv rfl (hF68.ev 10 rfl)) rfl (by decide) fun a69 hF69 => ?_
  refine sq (v := (.bool true)) hF69 (wantedG hF69 rfl rfl rfl rfl rfl) (run_eqi rfl (hF69.ev 69 rfl) (hF69.ev 70 rfl) (beq_self_eq_true _)) rfl (by decide) fun a70 hF70 => ?_
  refine sq (v := (.bool true)) hF70 (wantedS rfl) (run_pick rfl (hF70.ev 68 rfl) (hF70.ev 71 rfl) rfl) rfl (by decide) fun a71 hF71 => ?_
  refine sq (v := (.bool true)) hF71 (wantedS rfl) (run_mv rfl (hF71.ev 72 rfl)) rfl (by decide) fun a72 hF72 => ?_
  refine sq (v := (.string ⟨((answerS c.k c.n f).1).toArray⟩)) hF72 (wantedG hF72 rfl rfl rfl rfl rfl) (run_mv rfl (hF72.ev 11 rfl)) rfl (by decide) fun a73 hF73 => ?_
  refine sq (v := (.string ⟨((answerS c.k c.n f).1).toArray⟩)) hF73 (wantedG hF73 rfl rfl rfl rfl rfl) (run_mv rfl (hF73.ev 13 rfl)) rfl (by decide) fun a74 hF74 => ?_
  refine sq (v := (.bool true)) hF74 (wantedG hF74 rfl rfl rfl rfl rfl) (run_eqs rfl (hF74.ev 74 rfl) (hF74.ev 75 rfl) (beq_self_eq_true _)) rfl (by decide) fun a75 hF75 => ?_
  refine sq (v := (.bool true)) hF75 (wantedS rfl) (run_pick rfl (hF75.ev 73 rfl) (hF75.ev 76 rfl) rfl) rfl (by decide) fun a76 hF76 => ?_
  refine sq (v := (.bool true)) hF76 (wantedS rfl) (run_mv rfl (hF76.ev 77 rfl)) rfl (by decide) fun a77 hF77 => ?_
  refine sq (v := (.int .i64 ((answerS c.k c.n f).2))) hF77 (wantedG hF77 rfl rfl rfl rfl rfl) (run_mv rfl (hF77.ev 12 rfl)) rfl (by decide) fun a78 hF78 => ?_
  refine sq (v := (.int .i64 ((answerS c.k c.n f).2))) hF78 (wantedG hF78 rfl rfl rfl rfl rfl) (run_mv rfl (hF78.ev 14 rfl)) rfl (by decide) fun a79 hF79 => ?_
  refine sq (v := (.bool true)) hF79 (wantedG hF79 rfl rfl rfl rfl rfl) (run_eqi rfl (hF79.ev 79 rfl) (hF79.ev 80 rfl) (beq_self_eq_true _)) rfl (by decide) fun a80 hF80 => ?_
  refine sq (v := (.bool true)) hF80 (wantedS rfl) (run_pick rfl (hF80.ev 78 rfl) (hF80.ev 81 rfl) rfl) rfl (by decide) fun a81 hF81 => ?_
  refine sq (v := (.bool true)) hF81 (wantedS rfl) (run_as rfl (hF81.ev 82 rfl)) rfl (by decide) fun a82 hF82 => ?_
  refine sqEnd ?_
  clear hF55 hF56 hF57 hF58 hF59 hF60 hF61 hF62 hF63 hF64 hF65 hF66 hF67 hF68 hF69 hF70 hF71 hF72 hF73 hF74 hF75 hF76 hF77 hF78 hF79 hF80 hF81 hM9
  refine nx ?_
  refine wp_ret ?_
  exact ret1 hF82 rfl rfl ⟨rfl, hM10.below⟩
end Go.Proofs.YtioioibcldgknaaDoor
