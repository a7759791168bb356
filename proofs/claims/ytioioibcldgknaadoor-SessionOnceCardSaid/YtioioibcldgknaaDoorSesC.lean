/- The walk of the law SessionOnce. Printed by gen_ses4.py. -/
import Derived.Test.YtioioibcldgknaaDoorSes4
namespace Go.Proofs.YtioioibcldgknaaDoor
open Go.RowKit

attribute [local simp] xorS_len tagS_len keyedS_len nonceS_len
set_option maxRecDepth 100000 in
set_option maxHeartbeats 1000000 in
theorem lawSOnce_any (c : Ch) (x y : List UInt8) (w : World) (HG : Glob w) (hLc : c.k.length = 32) (hcn : c.n < 2 ^ 64) (hx : x.length ≤ maxLen) (hy : y.length ≤ maxLen) : Calls Tryd.prog 3 #[.agg (chA c), .string ⟨x.toArray⟩, .string ⟨y.toArray⟩] w fun e w' => e = .returned (.bool true) ∧ Below w.heap.size w w' := by
  unfold maxLen at *
  by_cases h1 : 100 < c.m.length
  · skip
    refine walk_enter Tryd.func3 rfl rfl rfl fun a0 hF0 => ?_
    have hM0 := Mem.new w
    refine wp_seq ?_
    refine wp_region_lit ?_
    refine sqNew (cs := (chA c)) (t := 26) hF0 hM0 (wantedS rfl) (run_box rfl (hF0.ev 0 rfl)) rfl (by decide) fun g0 a1 w1 hgg0 hb1 hF1 hM1 => ?_
    refine sq (v := (.bool false)) hF1 (wantedS rfl) (run_as rfl rfl) rfl (by decide) fun a2 hF2 => ?_
    refine sqEnd ?_
    clear hF0 hF1 hM0
    refine nx ?_
    refine wp_seq ?_
    refine wp_seq ?_
    refine wp_region_lit ?_
    refine sq (v := (.pointer (some ⟨g0, 0, none⟩))) hF2 (wantedS rfl) (run_fldA (m := 1) (s := 0) rfl (hF2.ev 3 rfl) Tryd.underlying26 rfl rfl (by kernel_rfl) (by decide)) rfl (by decide) fun a3 hF3 => ?_
    refine sq (v := (.string ⟨c.m.toArray⟩)) hF3 (wantedS rfl) (run_ldF rfl (hF3.ev 22 rfl) (hM1.at 0 rfl) rfl (by kernel_rfl)) rfl (by decide) fun a4 hF4 => ?_
    refine sq (v := (.int .i64 (c.m.length : Int))) hF4 (wantedS rfl) (run_len rfl (hF4.ev 23 rfl) rfl Tryd.underlying9) rfl (by decide) fun a5 hF5 => ?_
    refine sq (v := (.bool true)) hF5 (wantedS rfl) (run_gtr rfl (hF5.ev 24 rfl) rfl (decide_eq_true (by omega))) rfl (by decide) fun a6 hF6 => ?_
    refine sq (v := (.bool true)) hF6 (wantedS rfl) (run_mv rfl (hF6.ev 25 rfl)) rfl (by decide) fun a7 hF7 => ?_
    refine sqSkip hF7 (unwantedG hF7 rfl rfl rfl rfl rfl) rfl (by decide) fun a8 hF8 => ?_
    refine sqSkip hF8 (unwantedG hF8 rfl rfl rfl rfl rfl) rfl (by decide) fun a9 hF9 => ?_
    refine sqSkip hF9 (unwantedG hF9 rfl rfl rfl rfl rfl) rfl (by decide) fun a10 hF10 => ?_
    refine sq (v := (.bool true)) hF10 (wantedS rfl) (run_pick rfl (hF10.ev 26 rfl) rfl (hF10.ev 29 rfl)) rfl (by decide) fun a11 hF11 => ?_
    refine sq (v := (.bool true)) hF11 (wantedS rfl) (run_mv rfl (hF11.ev 30 rfl)) rfl (by decide) fun a12 hF12 => ?_
    refine sqSkip hF12 (unwantedG hF12 rfl rfl rfl rfl rfl) rfl (by decide) fun a13 hF13 => ?_
    refine sqSkip hF13 (unwantedG hF13 rfl rfl rfl rfl rfl) rfl (by decide) fun a14 hF14 => ?_
    refine sqSkip hF14 (unwantedG hF14 rfl rfl rfl rfl rfl) rfl (by decide) fun a15 hF15 => ?_
    refine sq (v := (.bool true)) hF15 (wantedS rfl) (run_pick rfl (hF15.ev 31 rfl) rfl (hF15.ev 34 rfl)) rfl (by decide) fun a16 hF16 => ?_
    refine sq (v := (.bool true)) hF16 (wantedS rfl) (run_mv rfl (hF16.ev 35 rfl)) rfl (by decide) fun a17 hF17 => ?_
    refine sqSkip hF17 (unwantedG hF17 rfl rfl rfl rfl rfl) rfl (by decide) fun a18 hF18 => ?_
    refine sqSkip hF18 (unwantedG hF18 rfl rfl rfl rfl rfl) rfl (by decide) fun a19 hF19 => ?_
    refine sqSkip hF19 (unwantedG hF19 rfl rfl rfl rfl rfl) rfl (by decide) fun a20 hF20 => ?_
    refine sq (v := (.bool true)) hF20 (wantedS rfl) (run_pick rfl (hF20.ev 36 rfl) rfl (hF20.ev 39 rfl)) rfl (by decide) fun a21 hF21 => ?_
    refine sqEnd ?_
    clear hF2 hF3 hF4 hF5 hF6 hF7 hF8 hF9 hF10 hF11 hF12 hF13 hF14 hF15 hF16 hF17 hF18 hF19 hF20
    refine nx ?_
    refine wp_cond_true (hF21.ev 40 rfl) ?_
    refine wp_seq ?_
    refine wp_region_lit ?_
    refine sqC (v := (.bool true)) hF21 hM1 (wantedS rfl) (run_call rfl Tryd.func11 (by kernel_rfl) rfl (mapE0 )) rfl (by decide) (sfix_any w1 (HG.below hM1.below)) fun a22 w2 hb2 hF22 hM2 => ?_
    refine sq (v := (.bool true)) hF22 (wantedS rfl) (run_as rfl (hF22.ev 41 rfl)) rfl (by decide) fun a23 hF23 => ?_
    refine sqEnd ?_
    clear hF21 hF22 hM1
    refine nx ?_
    refine wp_ret ?_
    refine nxRet ?_
    exact ret1 hF23 rfl rfl ⟨rfl, hM2.below⟩
  by_cases h2 : 100 < x.length
  · skip
    refine walk_enter Tryd.func3 rfl rfl rfl fun a0 hF0 => ?_
    have hM0 := Mem.new w
    refine wp_seq ?_
    refine wp_region_lit ?_
    refine sqNew (cs := (chA c)) (t := 26) hF0 hM0 (wantedS rfl) (run_box rfl (hF0.ev 0 rfl)) rfl (by decide) fun g0 a1 w1 hgg0 hb1 hF1 hM1 => ?_
    refine sq (v := (.bool false)) hF1 (wantedS rfl) (run_as rfl rfl) rfl (by decide) fun a2 hF2 => ?_
    refine sqEnd ?_
    clear hF0 hF1 hM0
    refine nx ?_
    refine wp_seq ?_
    refine wp_seq ?_
    refine wp_region_lit ?_
    refine sq (v := (.pointer (some ⟨g0, 0, none⟩))) hF2 (wantedS rfl) (run_fldA (m := 1) (s := 0) rfl (hF2.ev 3 rfl) Tryd.underlying26 rfl rfl (by kernel_rfl) (by decide)) rfl (by decide) fun a3 hF3 => ?_
    refine sq (v := (.string ⟨c.m.toArray⟩)) hF3 (wantedS rfl) (run_ldF rfl (hF3.ev 22 rfl) (hM1.at 0 rfl) rfl (by kernel_rfl)) rfl (by decide) fun a4 hF4 => ?_
    refine sq (v := (.int .i64 (c.m.length : Int))) hF4 (wantedS rfl) (run_len rfl (hF4.ev 23 rfl) rfl Tryd.underlying9) rfl (by decide) fun a5 hF5 => ?_
    refine sq (v := (.bool false)) hF5 (wantedS rfl) (run_gtr rfl (hF5.ev 24 rfl) rfl (decide_eq_false (by omega))) rfl (by decide) fun a6 hF6 => ?_
    refine sq (v := (.bool false)) hF6 (wantedS rfl) (run_mv rfl (hF6.ev 25 rfl)) rfl (by decide) fun a7 hF7 => ?_
    refine sq (v := (.string ⟨x.toArray⟩)) hF7 (wantedG hF7 rfl rfl rfl rfl rfl) (run_mv rfl (hF7.ev 1 rfl)) rfl (by decide) fun a8 hF8 => ?_
    refine sq (v := (.int .i64 (x.length : Int))) hF8 (wantedG hF8 rfl rfl rfl rfl rfl) (run_len rfl (hF8.ev 27 rfl) rfl Tryd.underlying9) rfl (by decide) fun a9 hF9 => ?_
    refine sq (v := (.bool true)) hF9 (wantedG hF9 rfl rfl rfl rfl rfl) (run_gtr rfl (hF9.ev 28 rfl) rfl (decide_eq_true (by omega))) rfl (by decide) fun a10 hF10 => ?_
    refine sq (v := (.bool true)) hF10 (wantedS rfl) (run_pick rfl (hF10.ev 26 rfl) rfl (hF10.ev 29 rfl)) rfl (by decide) fun a11 hF11 => ?_
    refine sq (v := (.bool true)) hF11 (wantedS rfl) (run_mv rfl (hF11.ev 30 rfl)) rfl (by decide) fun a12 hF12 => ?_
    refine sqSkip hF12 (unwantedG hF12 rfl rfl rfl rfl rfl) rfl (by decide) fun a13 hF13 => ?_
    refine sqSkip hF13 (unwantedG hF13 rfl rfl rfl rfl rfl) rfl (by decide) fun a14 hF14 => ?_
    refine sqSkip hF14 (unwantedG hF14 rfl rfl rfl rfl rfl) rfl (by decide) fun a15 hF15 => ?_
    refine sq (v := (.bool true)) hF15 (wantedS rfl) (run_pick rfl (hF15.ev 31 rfl) rfl (hF15.ev 34 rfl)) rfl (by decide) fun a16 hF16 => ?_
    refine sq (v := (.bool true)) hF16 (wantedS rfl) (run_mv rfl (hF16.ev 35 rfl)) rfl (by decide) fun a17 hF17 => ?_
    refine sqSkip hF17 (unwantedG hF17 rfl rfl rfl rfl rfl) rfl (by decide) fun a18 hF18 => ?_
    refine sqSkip hF18 (unwantedG hF18 rfl rfl rfl rfl rfl) rfl (by decide) fun a19 hF19 => ?_
    refine sqSkip hF19 (unwantedG hF19 rfl rfl rfl rfl rfl) rfl (by decide) fun a20 hF20 => ?_
    refine sq (v := (.bool true)) hF20 (wantedS rfl) (run_pick rfl (hF20.ev 36 rfl) rfl (hF20.ev 39 rfl)) rfl (by decide) fun a21 hF21 => ?_
    refine sqEnd ?_
    clear hF2 hF3 hF4 hF5 hF6 hF7 hF8 hF9 hF10 hF11 hF12 hF13 hF14 hF15 hF16 hF17 hF18 hF19 hF20
    refine nx ?_
    refine wp_cond_true (hF21.ev 40 rfl) ?_
    refine wp_seq ?_
    refine wp_region_lit ?_
    refine sqC (v := (.bool true)) hF21 hM1 (wantedS rfl) (run_call rfl Tryd.func11 (by kernel_rfl) rfl (mapE0 )) rfl (by decide) (sfix_any w1 (HG.below hM1.below)) fun a22 w2 hb2 hF22 hM2 => ?_
    refine sq (v := (.bool true)) hF22 (wantedS rfl) (run_as rfl (hF22.ev 41 rfl)) rfl (by decide) fun a23 hF23 => ?_
    refine sqEnd ?_
    clear hF21 hF22 hM1
    refine nx ?_
    refine wp_ret ?_
    refine nxRet ?_
    exact ret1 hF23 rfl rfl ⟨rfl, hM2.below⟩
  by_cases h3 : 100 < y.length
  · skip
    refine walk_enter Tryd.func3 rfl rfl rfl fun a0 hF0 => ?_
    have hM0 := Mem.new w
    refine wp_seq ?_
    refine wp_region_lit ?_
    refine sqNew (cs := (chA c)) (t := 26) hF0 hM0 (wantedS rfl) (run_box rfl (hF0.ev 0 rfl)) rfl (by decide) fun g0 a1 w1 hgg0 hb1 hF1 hM1 => ?_
    refine sq (v := (.bool false)) hF1 (wantedS rfl) (run_as rfl rfl) rfl (by decide) fun a2 hF2 => ?_
    refine sqEnd ?_
    clear hF0 hF1 hM0
    refine nx ?_
    refine wp_seq ?_
    refine wp_seq ?_
    refine wp_region_lit ?_
    refine sq (v := (.pointer (some ⟨g0, 0, none⟩))) hF2 (wantedS rfl) (run_fldA (m := 1) (s := 0) rfl (hF2.ev 3 rfl) Tryd.underlying26 rfl rfl (by kernel_rfl) (by decide)) rfl (by decide) fun a3 hF3 => ?_
    refine sq (v := (.string ⟨c.m.toArray⟩)) hF3 (wantedS rfl) (run_ldF rfl (hF3.ev 22 rfl) (hM1.at 0 rfl) rfl (by kernel_rfl)) rfl (by decide) fun a4 hF4 => ?_
    refine sq (v := (.int .i64 (c.m.length : Int))) hF4 (wantedS rfl) (run_len rfl (hF4.ev 23 rfl) rfl Tryd.underlying9) rfl (by decide) fun a5 hF5 => ?_
    refine sq (v := (.bool false)) hF5 (wantedS rfl) (run_gtr rfl (hF5.ev 24 rfl) rfl (decide_eq_false (by omega))) rfl (by decide) fun a6 hF6 => ?_
    refine sq (v := (.bool false)) hF6 (wantedS rfl) (run_mv rfl (hF6.ev 25 rfl)) rfl (by decide) fun a7 hF7 => ?_
    refine sq (v := (.string ⟨x.toArray⟩)) hF7 (wantedG hF7 rfl rfl rfl rfl rfl) (run_mv rfl (hF7.ev 1 rfl)) rfl (by decide) fun a8 hF8 => ?_
    refine sq (v := (.int .i64 (x.length : Int))) hF8 (wantedG hF8 rfl rfl rfl rfl rfl) (run_len rfl (hF8.ev 27 rfl) rfl Tryd.underlying9) rfl (by decide) fun a9 hF9 => ?_
    refine sq (v := (.bool false)) hF9 (wantedG hF9 rfl rfl rfl rfl rfl) (run_gtr rfl (hF9.ev 28 rfl) rfl (decide_eq_false (by omega))) rfl (by decide) fun a10 hF10 => ?_
    refine sq (v := (.bool false)) hF10 (wantedS rfl) (run_pick rfl (hF10.ev 26 rfl) rfl (hF10.ev 29 rfl)) rfl (by decide) fun a11 hF11 => ?_
    refine sq (v := (.bool false)) hF11 (wantedS rfl) (run_mv rfl (hF11.ev 30 rfl)) rfl (by decide) fun a12 hF12 => ?_
    refine sq (v := (.string ⟨y.toArray⟩)) hF12 (wantedG hF12 rfl rfl rfl rfl rfl) (run_mv rfl (hF12.ev 2 rfl)) rfl (by decide) fun a13 hF13 => ?_
    refine sq (v := (.int .i64 (y.length : Int))) hF13 (wantedG hF13 rfl rfl rfl rfl rfl) (run_len rfl (hF13.ev 32 rfl) rfl Tryd.underlying9) rfl (by decide) fun a14 hF14 => ?_
    refine sq (v := (.bool true)) hF14 (wantedG hF14 rfl rfl rfl rfl rfl) (run_gtr rfl (hF14.ev 33 rfl) rfl (decide_eq_true (by omega))) rfl (by decide) fun a15 hF15 => ?_
    refine sq (v := (.bool true)) hF15 (wantedS rfl) (run_pick rfl (hF15.ev 31 rfl) rfl (hF15.ev 34 rfl)) rfl (by decide) fun a16 hF16 => ?_
    refine sq (v := (.bool true)) hF16 (wantedS rfl) (run_mv rfl (hF16.ev 35 rfl)) rfl (by decide) fun a17 hF17 => ?_
    refine sqSkip hF17 (unwantedG hF17 rfl rfl rfl rfl rfl) rfl (by decide) fun a18 hF18 => ?_
    refine sqSkip hF18 (unwantedG hF18 rfl rfl rfl rfl rfl) rfl (by decide) fun a19 hF19 => ?_
    refine sqSkip hF19 (unwantedG hF19 rfl rfl rfl rfl rfl) rfl (by decide) fun a20 hF20 => ?_
    refine sq (v := (.bool true)) hF20 (wantedS rfl) (run_pick rfl (hF20.ev 36 rfl) rfl (hF20.ev 39 rfl)) rfl (by decide) fun a21 hF21 => ?_
    refine sqEnd ?_
    clear hF2 hF3 hF4 hF5 hF6 hF7 hF8 hF9 hF10 hF11 hF12 hF13 hF14 hF15 hF16 hF17 hF18 hF19 hF20
    refine nx ?_
    refine wp_cond_true (hF21.ev 40 rfl) ?_
    refine wp_seq ?_
    refine wp_region_lit ?_
    refine sqC (v := (.bool true)) hF21 hM1 (wantedS rfl) (run_call rfl Tryd.func11 (by kernel_rfl) rfl (mapE0 )) rfl (by decide) (sfix_any w1 (HG.below hM1.below)) fun a22 w2 hb2 hF22 hM2 => ?_
    refine sq (v := (.bool true)) hF22 (wantedS rfl) (run_as rfl (hF22.ev 41 rfl)) rfl (by decide) fun a23 hF23 => ?_
    refine sqEnd ?_
    clear hF21 hF22 hM1
    refine nx ?_
    refine wp_ret ?_
    refine nxRet ?_
    exact ret1 hF23 rfl rfl ⟨rfl, hM2.below⟩
  by_cases h4 : 1152921504606846976 < c.n
  · skip
    refine walk_enter Tryd.func3 rfl rfl rfl fun a0 hF0 => ?_
    have hM0 := Mem.new w
    refine wp_seq ?_
    refine wp_region_lit ?_
    refine sqNew (cs := (chA c)) (t := 26) hF0 hM0 (wantedS rfl) (run_box rfl (hF0.ev 0 rfl)) rfl (by decide) fun g0 a1 w1 hgg0 hb1 hF1 hM1 => ?_
    refine sq (v := (.bool false)) hF1 (wantedS rfl) (run_as rfl rfl) rfl (by decide) fun a2 hF2 => ?_
    refine sqEnd ?_
    clear hF0 hF1 hM0
    refine nx ?_
    refine wp_seq ?_
    refine wp_seq ?_
    refine wp_region_lit ?_
    refine sq (v := (.pointer (some ⟨g0, 0, none⟩))) hF2 (wantedS rfl) (run_fldA (m := 1) (s := 0) rfl (hF2.ev 3 rfl) Tryd.underlying26 rfl rfl (by kernel_rfl) (by decide)) rfl (by decide) fun a3 hF3 => ?_
    refine sq (v := (.string ⟨c.m.toArray⟩)) hF3 (wantedS rfl) (run_ldF rfl (hF3.ev 22 rfl) (hM1.at 0 rfl) rfl (by kernel_rfl)) rfl (by decide) fun a4 hF4 => ?_
    refine sq (v := (.int .i64 (c.m.length : Int))) hF4 (wantedS rfl) (run_len rfl (hF4.ev 23 rfl) rfl Tryd.underlying9) rfl (by decide) fun a5 hF5 => ?_
    refine sq (v := (.bool false)) hF5 (wantedS rfl) (run_gtr rfl (hF5.ev 24 rfl) rfl (decide_eq_false (by omega))) rfl (by decide) fun a6 hF6 => ?_
    refine sq (v := (.bool false)) hF6 (wantedS rfl) (run_mv rfl (hF6.ev 25 rfl)) rfl (by decide) fun a7 hF7 => ?_
    refine sq (v := (.string ⟨x.toArray⟩)) hF7 (wantedG hF7 rfl rfl rfl rfl rfl) (run_mv rfl (hF7.ev 1 rfl)) rfl (by decide) fun a8 hF8 => ?_
    refine sq (v := (.int .i64 (x.length : Int))) hF8 (wantedG hF8 rfl rfl rfl rfl rfl) (run_len rfl (hF8.ev 27 rfl) rfl Tryd.underlying9) rfl (by decide) fun a9 hF9 => ?_
    refine sq (v := (.bool false)) hF9 (wantedG hF9 rfl rfl rfl rfl rfl) (run_gtr rfl (hF9.ev 28 rfl) rfl (decide_eq_false (by omega))) rfl (by decide) fun a10 hF10 => ?_
    refine sq (v := (.bool false)) hF10 (wantedS rfl) (run_pick rfl (hF10.ev 26 rfl) rfl (hF10.ev 29 rfl)) rfl (by decide) fun a11 hF11 => ?_
    refine sq (v := (.bool false)) hF11 (wantedS rfl) (run_mv rfl (hF11.ev 30 rfl)) rfl (by decide) fun a12 hF12 => ?_
    refine sq (v := (.string ⟨y.toArray⟩)) hF12 (wantedG hF12 rfl rfl rfl rfl rfl) (run_mv rfl (hF12.ev 2 rfl)) rfl (by decide) fun a13 hF13 => ?_
    refine sq (v := (.int .i64 (y.length : Int))) hF13 (wantedG hF13 rfl rfl rfl rfl rfl) (run_len rfl (hF13.ev 32 rfl) rfl Tryd.underlying9) rfl (by decide) fun a14 hF14 => ?_
    refine sq (v := (.bool false)) hF14 (wantedG hF14 rfl rfl rfl rfl rfl) (run_gtr rfl (hF14.ev 33 rfl) rfl (decide_eq_false (by omega))) rfl (by decide) fun a15 hF15 => ?_
    refine sq (v := (.bool false)) hF15 (wantedS rfl) (run_pick rfl (hF15.ev 31 rfl) rfl (hF15.ev 34 rfl)) rfl (by decide) fun a16 hF16 => ?_
    refine sq (v := (.bool false)) hF16 (wantedS rfl) (run_mv rfl (hF16.ev 35 rfl)) rfl (by decide) fun a17 hF17 => ?_
    refine sq (v := (.pointer (some ⟨g0, 1, none⟩))) hF17 (wantedG hF17 rfl rfl rfl rfl rfl) (run_fldA (m := 1) (s := 1) rfl (hF17.ev 3 rfl) Tryd.underlying26 rfl rfl (by kernel_rfl) (by decide)) rfl (by decide) fun a18 hF18 => ?_
    refine sq (v := (.int .u64 (c.n : Int))) hF18 (wantedG hF18 rfl rfl rfl rfl rfl) (run_ldF rfl (hF18.ev 37 rfl) (hM1.at 0 rfl) rfl (by kernel_rfl)) rfl (by decide) fun a19 hF19 => ?_
    refine sq (v := (.bool true)) hF19 (wantedG hF19 rfl rfl rfl rfl rfl) (run_gtr rfl (hF19.ev 38 rfl) rfl (decide_eq_true (by omega))) rfl (by decide) fun a20 hF20 => ?_
    refine sq (v := (.bool true)) hF20 (wantedS rfl) (run_pick rfl (hF20.ev 36 rfl) rfl (hF20.ev 39 rfl)) rfl (by decide) fun a21 hF21 => ?_
    refine sqEnd ?_
    clear hF2 hF3 hF4 hF5 hF6 hF7 hF8 hF9 hF10 hF11 hF12 hF13 hF14 hF15 hF16 hF17 hF18 hF19 hF20
    refine nx ?_
    refine wp_cond_true (hF21.ev 40 rfl) ?_
    refine wp_seq ?_
    refine wp_region_lit ?_
    refine sqC (v := (.bool true)) hF21 hM1 (wantedS rfl) (run_call rfl Tryd.func11 (by kernel_rfl) rfl (mapE0 )) rfl (by decide) (sfix_any w1 (HG.below hM1.below)) fun a22 w2 hb2 hF22 hM2 => ?_
    refine sq (v := (.bool true)) hF22 (wantedS rfl) (run_as rfl (hF22.ev 41 rfl)) rfl (by decide) fun a23 hF23 => ?_
    refine sqEnd ?_
    clear hF21 hF22 hM1
    refine nx ?_
    refine wp_ret ?_
    refine nxRet ?_
    exact ret1 hF23 rfl rfl ⟨rfl, hM2.below⟩
  have hn1 := goS_n c
  have hn2 := goS_n (goS c)
  have hm1 : (goS c).m = c.m := rfl
  have hm2 : (goS (goS c)).m = c.m := rfl
  have hm1l : (goS c).m.length ≤ 100 := by rw [hm1]; omega
  have hm2l : (goS (goS c)).m.length ≤ 100 := by rw [hm2]; omega
  have hS1 : sendS c x = ((goS c), (frameS c x), 0) := sendS_ok _ _ (by omega) (by unfold mostN; omega)
  have hS2 : sendS (goS c) y = ((goS (goS c)), (frameS (goS c) y), 0) := sendS_ok _ _ (by omega) (by unfold mostN; omega)
  have hT1 : takeS c (frameS (goS c) y) = ((goS (goS c)), y, 0) := take_sent _ _ _ rfl (by omega) (by omega) (by unfold mostN; omega) (by omega) (by omega) (by rw [show (goS c).n - c.n = 1 by omega, nxS_one, goS_k])
  have hT2 : takeS (goS (goS c)) (frameS c x) = (noCh, [], 19) := take_old _ _ _ rfl (by omega) (by omega) (by unfold mostN; omega) (by omega)
  have hT3 : takeS (goS (goS c)) (frameS (goS c) y) = (noCh, [], 19) := take_old _ _ _ rfl (by omega) (by omega) (by unfold mostN; omega) (by omega)
  have hf1 := frameS_len c x (by omega) (by omega)
  have hf2 := frameS_len (goS c) y (by omega) (by omega)
  generalize (frameS (goS c) y) = f2 at hS2 hT1 hT3 hf2
  generalize (frameS c x) = f1 at hS1 hT2 hf1
  refine walk_enter Tryd.func3 rfl rfl rfl fun a0 hF0 => ?_
  have hM0 := Mem.new w
  refine wp_seq ?_
  refine wp_region_lit ?_
  refine sqNew (cs := (chA c)) (t := 26) hF0 hM0 (wantedS rfl) (run_box rfl (hF0.ev 0 rfl)) rfl (by decide) fun g0 a1 w1 hgg0 hb1 hF1 hM1 => ?_
  refine sq (v := (.bool false)) hF1 (wantedS rfl) (run_as rfl rfl) rfl (by decide) fun a2 hF2 => ?_
  refine sqEnd ?_
  clear hF0 hF1 hM0
  refine nx ?_
  refine wp_seq ?_
  refine wp_seq ?_
  refine wp_region_lit ?_
  refine sq (v := (.pointer (some ⟨g0, 0, none⟩))) hF2 (wantedS rfl) (run_fldA (m := 1) (s := 0) rfl (hF2.ev 3 rfl) Tryd.underlying26 rfl rfl (by kernel_rfl) (by decide)) rfl (by decide) fun a3 hF3 => ?_
  refine sq (v := (.string ⟨c.m.toArray⟩)) hF3 (wantedS rfl) (run_ldF rfl (hF3.ev 22 rfl) (hM1.at 0 rfl) rfl (by kernel_rfl)) rfl (by decide) fun a4 hF4 => ?_
  refine sq (v := (.int .i64 (c.m.length : Int))) hF4 (wantedS rfl) (run_len rfl (hF4.ev 23 rfl) rfl Tryd.underlying9) rfl (by decide) fun a5 hF5 => ?_
  refine sq (v := (.bool false)) hF5 (wantedS rfl) (run_gtr rfl (hF5.ev 24 rfl) rfl (decide_eq_false (by omega))) rfl (by decide) fun a6 hF6 => ?_
  refine sq (v := (.bool false)) hF6 (wantedS rfl) (run_mv rfl (hF6.ev 25 rfl)) rfl (by decide) fun a7 hF7 => ?_
  refine sq (v := (.string ⟨x.toArray⟩)) hF7 (wantedG hF7 rfl rfl rfl rfl rfl) (run_mv rfl (hF7.ev 1 rfl)) rfl (by decide) fun a8 hF8 => ?_
  refine sq (v := (.int .i64 (x.length : Int))) hF8 (wantedG hF8 rfl rfl rfl rfl rfl) (run_len rfl (hF8.ev 27 rfl) rfl Tryd.underlying9) rfl (by decide) fun a9 hF9 => ?_
  refine sq (v := (.bool false)) hF9 (wantedG hF9 rfl rfl rfl rfl rfl) (run_gtr rfl (hF9.ev 28 rfl) rfl (decide_eq_false (by omega))) rfl (by decide) fun a10 hF10 => ?_
  refine sq (v := (.bool false)) hF10 (wantedS rfl) (run_pick rfl (hF10.ev 26 rfl) rfl (hF10.ev 29 rfl)) rfl (by decide) fun a11 hF11 => ?_
  refine sq (v := (.bool false)) hF11 (wantedS rfl) (run_mv rfl (hF11.ev 30 rfl)) rfl (by decide) fun a12 hF12 => ?_
  refine sq (v := (.string ⟨y.toArray⟩)) hF12 (wantedG hF12 rfl rfl rfl rfl rfl) (run_mv rfl (hF12.ev 2 rfl)) rfl (by decide) fun a13 hF13 => ?_
  refine sq (v := (.int .i64 (y.length : Int))) hF13 (wantedG hF13 rfl rfl rfl rfl rfl) (run_len rfl (hF13.ev 32 rfl) rfl Tryd.underlying9) rfl (by decide) fun a14 hF14 => ?_
  refine sq (v := (.bool false)) hF14 (wantedG hF14 rfl rfl rfl rfl rfl) (run_gtr rfl (hF14.ev 33 rfl) rfl (decide_eq_false (by omega))) rfl (by decide) fun a15 hF15 => ?_
  refine sq (v := (.bool false)) hF15 (wantedS rfl) (run_pick rfl (hF15.ev 31 rfl) rfl (hF15.ev 34 rfl)) rfl (by decide) fun a16 hF16 => ?_
  refine sq (v := (.bool false)) hF16 (wantedS rfl) (run_mv rfl (hF16.ev 35 rfl)) rfl (by decide) fun a17 hF17 => ?_
  refine sq (v := (.pointer (some ⟨g0, 1, none⟩))) hF17 (wantedG hF17 rfl rfl rfl rfl rfl) (run_fldA (m := 1) (s := 1) rfl (hF17.ev 3 rfl) Tryd.underlying26 rfl rfl (by kernel_rfl) (by decide)) rfl (by decide) fun a18 hF18 => ?_
  refine sq (v := (.int .u64 (c.n : Int))) hF18 (wantedG hF18 rfl rfl rfl rfl rfl) (run_ldF rfl (hF18.ev 37 rfl) (hM1.at 0 rfl) rfl (by kernel_rfl)) rfl (by decide) fun a19 hF19 => ?_
  refine sq (v := (.bool false)) hF19 (wantedG hF19 rfl rfl rfl rfl rfl) (run_gtr rfl (hF19.ev 38 rfl) rfl (decide_eq_false (by omega))) rfl (by decide) fun a20 hF20 => ?_
  refine sq (v := (.bool false)) hF20 (wantedS rfl) (run_pick rfl (hF20.ev 36 rfl) rfl (hF20.ev 39 rfl)) rfl (by decide) fun a21 hF21 => ?_
  refine sqEnd ?_
  clear hF2 hF3 hF4 hF5 hF6 hF7 hF8 hF9 hF10 hF11 hF12 hF13 hF14 hF15 hF16 hF17 hF18 hF19 hF20
  refine nx ?_
  refine wp_cond_false (hF21.ev 40 rfl) ?_
  refine wp_skip ?_
  refine nx ?_
  refine wp_seq ?_
  refine wp_region_lit ?_
  refine sq (v := (.agg (chA c))) hF21 (wantedS rfl) (run_ldB rfl (hF21.ev 3 rfl) (hM1.at 0 rfl) Tryd.underlying26 rfl szCh (chA_size hLc)) rfl (by decide) fun a22 hF22 => ?_
  refine sq (v := (.string ⟨x.toArray⟩)) hF22 (wantedS rfl) (run_mv rfl (hF22.ev 1 rfl)) rfl (by decide) fun a23 hF23 => ?_
  refine sqC (v := (.tuple #[(.agg (chA (goS c))), (.string ⟨f1.toArray⟩), (.int .i64 0)])) hF23 hM1 (wantedS rfl) (run_call rfl Tryd.func12 (by kernel_rfl) rfl (mapE2 (hF23.ev 43 rfl) (hF23.ev 44 rfl))) rfl (by decide) (send_eq hS1 w1 (HG.below hM1.below) hLc (by first | omega | decide | (simp; done) | (simp; omega)) (by first | omega | decide | (simp; done) | (simp; omega))) fun a24 w2 hb2 hF24 hM2 => ?_
  refine sq (v := (.tuple #[(.agg (chA (goS c))), (.string ⟨f1.toArray⟩), (.int .i64 0)])) hF24 (wantedS rfl) (run_mv rfl (hF24.ev 45 rfl)) rfl (by decide) fun a25 hF25 => ?_
  refine sq (v := (.agg (chA (goS c)))) hF25 (wantedS rfl) (run_ext rfl (hF25.ev 42 rfl) rfl) rfl (by decide) fun a26 hF26 => ?_
  refine sq (v := (.string ⟨f1.toArray⟩)) hF26 (wantedS rfl) (run_ext rfl (hF26.ev 42 rfl) rfl) rfl (by decide) fun a27 hF27 => ?_
  refine sq (v := (.int .i64 0)) hF27 (wantedS rfl) (run_ext rfl (hF27.ev 42 rfl) rfl) rfl (by decide) fun a28 hF28 => ?_
  refine sqNew (cs := (chA noCh)) (t := 26) hF28 hM2 (wantedS rfl) (run_alloc rfl (by kernel_rfl)) rfl (by decide) fun g1 a29 w3 hgg1 hb3 hF29 hM3 => ?_
  refine sqStore (i := 0) hF29 hM3 rfl rfl rfl (hF29.ev 7 rfl) (hF29.ev 46 rfl) rfl szCh (chA_size (goS_len _)) (chA_size noCh_len) (chA_one _) fun a30 w4 hF30 hM4 => ?_
  refine sq (v := (.string ⟨f1.toArray⟩)) hF30 (wantedS rfl) (run_as rfl (hF30.ev 47 rfl)) rfl (by decide) fun a31 hF31 => ?_
  refine sq (v := (.int .i64 0)) hF31 (wantedS rfl) (run_as rfl (hF31.ev 48 rfl)) rfl (by decide) fun a32 hF32 => ?_
  refine sqEnd ?_
  clear hF21 hF22 hF23 hF24 hF25 hF26 hF27 hF28 hF29 hF30 hF31 hM1 hM2 hM3
  refine nx ?_
  refine wp_seq ?_
  refine wp_region_lit ?_
  refine sq (v := (.agg (chA (goS c)))) hF32 (wantedS rfl) (run_ldB rfl (hF32.ev 7 rfl) (hM4.at 0 rfl) Tryd.underlying26 rfl szCh (chA_size (goS_len _))) rfl (by decide) fun a33 hF33 => ?_
  refine sq (v := (.string ⟨y.toArray⟩)) hF33 (wantedS rfl) (run_mv rfl (hF33.ev 2 rfl)) rfl (by decide) fun a34 hF34 => ?_
  refine sqC (v := (.tuple #[(.agg (chA (goS (goS c)))), (.string ⟨f2.toArray⟩), (.int .i64 0)])) hF34 hM4 (wantedS rfl) (run_call rfl Tryd.func12 (by kernel_rfl) rfl (mapE2 (hF34.ev 50 rfl) (hF34.ev 51 rfl))) rfl (by decide) (send_eq hS2 w4 (HG.below hM4.below) (goS_len _) (by first | omega | decide | (simp; done) | (simp; omega)) (by first | omega | decide | (simp; done) | (simp; omega))) fun a35 w5 hb5 hF35 hM5 => ?_
  refine sq (v := (.tuple #[(.agg (chA (goS (goS c)))), (.string ⟨f2.toArray⟩), (.int .i64 0)])) hF35 (wantedS rfl) (run_mv rfl (hF35.ev 52 rfl)) rfl (by decide) fun a36 hF36 => ?_
  refine sq (v := (.agg (chA (goS (goS c))))) hF36 (wantedS rfl) (run_ext rfl (hF36.ev 49 rfl) rfl) rfl (by decide) fun a37 hF37 => ?_
  refine sq (v := (.string ⟨f2.toArray⟩)) hF37 (wantedS rfl) (run_ext rfl (hF37.ev 49 rfl) rfl) rfl (by decide) fun a38 hF38 => ?_
  refine sq (v := (.int .i64 0)) hF38 (wantedS rfl) (run_ext rfl (hF38.ev 49 rfl) rfl) rfl (by decide) fun a39 hF39 => ?_
  refine sqNew (cs := (chA noCh)) (t := 26) hF39 hM5 (wantedS rfl) (run_alloc rfl (by kernel_rfl)) rfl (by decide) fun g2 a40 w6 hgg2 hb6 hF40 hM6 => ?_
  refine sqStore (i := 0) hF40 hM6 rfl rfl rfl (hF40.ev 10 rfl) (hF40.ev 53 rfl) rfl szCh (chA_size (goS_len _)) (chA_size noCh_len) (chA_one _) fun a41 w7 hF41 hM7 => ?_
  refine sq (v := (.string ⟨f2.toArray⟩)) hF41 (wantedS rfl) (run_as rfl (hF41.ev 54 rfl)) rfl (by decide) fun a42 hF42 => ?_
  refine sq (v := (.int .i64 0)) hF42 (wantedS rfl) (run_as rfl (hF42.ev 55 rfl)) rfl (by decide) fun a43 hF43 => ?_
  refine sqEnd ?_
  clear hF32 hF33 hF34 hF35 hF36 hF37 hF38 hF39 hF40 hF41 hF42 hM4 hM5 hM6
  refine nx ?_
  refine wp_seq ?_
  refine wp_region_lit ?_
  refine sq (v := (.agg (chA c))) hF43 (wantedS rfl) (run_ldB rfl (hF43.ev 3 rfl) (hM7.at 2 rfl) Tryd.underlying26 rfl szCh (chA_size hLc)) rfl (by decide) fun a44 hF44 => ?_
  refine sq (v := (.string ⟨f2.toArray⟩)) hF44 (wantedS rfl) (run_mv rfl (hF44.ev 11 rfl)) rfl (by decide) fun a45 hF45 => ?_
  refine sqC (v := (.tuple #[(.agg (chA (goS (goS c)))), (.string ⟨y.toArray⟩), (.int .i64 0)])) hF45 hM7 (wantedS rfl) (run_call rfl Tryd.func13 (by kernel_rfl) rfl (mapE2 (hF45.ev 57 rfl) (hF45.ev 58 rfl))) rfl (by decide) (take_eq hT1 w7 (HG.below hM7.below) hLc (by first | omega | decide | (simp; done) | (simp; omega)) (by first | omega | decide | (simp; done) | (simp; omega)) (by first | omega | decide | (simp; done) | (simp; omega))) fun a46 w8 hb8 hF46 hM8 => ?_
  refine sq (v := (.tuple #[(.agg (chA (goS (goS c)))), (.string ⟨y.toArray⟩), (.int .i64 0)])) hF46 (wantedS rfl) (run_mv rfl (hF46.ev 59 rfl)) rfl (by decide) fun a47 hF47 => ?_
  refine sq (v := (.agg (chA (goS (goS c))))) hF47 (wantedS rfl) (run_ext rfl (hF47.ev 56 rfl) rfl) rfl (by decide) fun a48 hF48 => ?_
  refine sq (v := (.string ⟨y.toArray⟩)) hF48 (wantedS rfl) (run_ext rfl (hF48.ev 56 rfl) rfl) rfl (by decide) fun a49 hF49 => ?_
  refine sq (v := (.int .i64 0)) hF49 (wantedS rfl) (run_ext rfl (hF49.ev 56 rfl) rfl) rfl (by decide) fun a50 hF50 => ?_
  refine sqNew (cs := (chA noCh)) (t := 26) hF50 hM8 (wantedS rfl) (run_alloc rfl (by kernel_rfl)) rfl (by decide) fun g3 a51 w9 hgg3 hb9 hF51 hM9 => ?_
  refine sqStore (i := 0) hF51 hM9 rfl rfl rfl (hF51.ev 13 rfl) (hF51.ev 60 rfl) rfl szCh (chA_size (goS_len _)) (chA_size noCh_len) (chA_one _) fun a52 w10 hF52 hM10 => ?_
  refine sq (v := (.string ⟨y.toArray⟩)) hF52 (wantedS rfl) (run_as rfl (hF52.ev 61 rfl)) rfl (by decide) fun a53 hF53 => ?_
  refine sq (v := (.int .i64 0)) hF53 (wantedS rfl) (run_as rfl (hF53.ev 62 rfl)) rfl (by decide) fun a54 hF54 => ?_
  refine sqEnd ?_
  clear hF43 hF44 hF45 hF46 hF47 hF48 hF49 hF50 hF51 hF52 hF53 hM7 hM8 hM9
  refine nx ?_
  refine wp_seq ?_
  refine wp_region_lit ?_
  refine sq (v := (.agg (chA (goS (goS c))))) hF54 (wantedS rfl) (run_ldB rfl (hF54.ev 13 rfl) (hM10.at 0 rfl) Tryd.underlying26 rfl szCh (chA_size (goS_len _))) rfl (by decide) fun a55 hF55 => ?_
  refine sq (v := (.string ⟨f1.toArray⟩)) hF55 (wantedS rfl) (run_mv rfl (hF55.ev 8 rfl)) rfl (by decide) fun a56 hF56 => ?_
  refine sqC (v := (.tuple #[(.agg (chA noCh)), (.string ⟨List.toArray []⟩), (.int .i64 19)])) hF56 hM10 (wantedS rfl) (run_call rfl Tryd.func13 (by kernel_rfl) rfl (mapE2 (hF56.ev 64 rfl) (hF56.ev 65 rfl))) rfl (by decide) (take_eq hT2 w10 (HG.below hM10.below) (goS_len _) (by first | omega | decide | (simp; done) | (simp; omega)) (by first | omega | decide | (simp; done) | (simp; omega)) (by first | omega | decide | (simp; done) | (simp; omega))) fun a57 w11 hb11 hF57 hM11 => ?_
  refine sq (v := (.tuple #[(.agg (chA noCh)), (.string ⟨List.toArray []⟩), (.int .i64 19)])) hF57 (wantedS rfl) (run_mv rfl (hF57.ev 66 rfl)) rfl (by decide) fun a58 hF58 => ?_
  refine sq (v := (.agg (chA noCh))) hF58 (wantedS rfl) (run_ext rfl (hF58.ev 63 rfl) rfl) rfl (by decide) fun a59 hF59 => ?_
  refine sq (v := (.string ⟨List.toArray []⟩)) hF59 (wantedS rfl) (run_ext rfl (hF59.ev 63 rfl) rfl) rfl (by decide) fun a60 hF60 => ?_
  refine sq (v := (.int .i64 19)) hF60 (wantedS rfl) (run_ext rfl (hF60.ev 63 rfl) rfl) rfl (by decide) fun a61 hF61 => ?_
  refine sqNew (cs := (chA noCh)) (t := 26) hF61 hM11 (wantedS rfl) (run_alloc rfl (by kernel_rfl)) rfl (by decide) fun g4 a62 w12 hgg4 hb12 hF62 hM12 => ?_
  refine sqStore (i := 0) hF62 hM12 rfl rfl rfl (hF62.ev 16 rfl) (hF62.ev 67 rfl) rfl szCh (chA_size noCh_len) (chA_size noCh_len) (chA_one _) fun a63 w13 hF63 hM13 => ?_
  refine sq (v := (.string ⟨List.toArray []⟩)) hF63 (wantedS rfl) (run_as rfl (hF63.ev 68 rfl)) rfl (by decide) fun a64 hF64 => ?_
  refine sq (v := (.int .i64 19)) hF64 (wantedS rfl) (run_as rfl (hF64.ev 69 rfl)) rfl (by decide) fun a65 hF65 => ?_
  refine sqEnd ?_
  clear hF54 hF55 hF56 hF57 hF58 hF59 hF60 hF61 hF62 hF63 hF64 hM10 hM11 hM12
  refine nx ?_
  refine wp_seq ?_
  refine wp_region_lit ?_
  refine sq (v := (.agg (chA (goS (goS c))))) hF65 (wantedS rfl) (run_ldB rfl (hF65.ev 13 rfl) (hM13.at 1 rfl) Tryd.underlying26 rfl szCh (chA_size (goS_len _))) rfl (by decide) fun a66 hF66 => ?_
  refine sq (v := (.string ⟨f2.toArray⟩)) hF66 (wantedS rfl) (run_mv rfl (hF66.ev 11 rfl)) rfl (by decide) fun a67 hF67 => ?_
  refine sqC (v := (.tuple #[(.agg (chA noCh)), (.string ⟨List.toArray []⟩), (.int .i64 19)])) hF67 hM13 (wantedS rfl) (run_call rfl Tryd.func13 (by kernel_rfl) rfl (mapE2 (hF67.ev 71 rfl) (hF67.ev 72 rfl))) rfl (by decide) (take_eq hT3 w13 (HG.below hM13.below) (goS_len _) (by first | omega | decide | (simp; done) | (simp; omega)) (by first | omega | decide | (simp; done) | (simp; omega)) (by first | omega | decide | (simp; done) | (simp; omega))) fun a68 w14 hb14 hF68 hM14 => ?_
  refine sq (v := (.tuple #[(.agg (chA noCh)), (.string ⟨List.toArray []⟩), (.int .i64 19)])) hF68 (wantedS rfl) (run_mv rfl (hF68.ev 73 rfl)) rfl (by decide) fun a69 hF69 => ?_
  refine sq (v := (.agg (chA noCh))) hF69 (wantedS rfl) (run_ext rfl (hF69.ev 70 rfl) rfl) rfl (by decide) fun a70 hF70 => ?_
  refine sq (v := (.string ⟨List.toArray []⟩)) hF70 (wantedS rfl) (run_ext rfl (hF70.ev 70 rfl) rfl) rfl (by decide) fun a71 hF71 => ?_
  refine sq (v := (.int .i64 19)) hF71 (wantedS rfl) (run_ext rfl (hF71.ev 70 rfl) rfl) rfl (by decide) fun a72 hF72 => ?_
  refine sqNew (cs := (chA noCh)) (t := 26) hF72 hM14 (wantedS rfl) (run_alloc rfl (by kernel_rfl)) rfl (by decide) fun g5 a73 w15 hgg5 hb15 hF73 hM15 => ?_
  refine sqStore (i := 0) hF73 hM15 rfl rfl rfl (hF73.ev 19 rfl) (hF73.ev 74 rfl) rfl szCh (chA_size noCh_len) (chA_size noCh_len) (chA_one _) fun a74 w16 hF74 hM16 => ?_
  refine sq (v := (.string ⟨List.toArray []⟩)) hF74 (wantedS rfl) (run_as rfl (hF74.ev 75 rfl)) rfl (by decide) fun a75 hF75 => ?_
  refine sq (v := (.int .i64 19)) hF75 (wantedS rfl) (run_as rfl (hF75.ev 76 rfl)) rfl (by decide) fun a76 hF76 => ?_
  refine sqEnd ?_
  clear hF65 hF66 hF67 hF68 hF69 hF70 hF71 hF72 hF73 hF74 hF75 hM13 hM14 hM15
  refine nx ?_
  refine wp_seq ?_
  refine wp_region_lit ?_
  refine sqC (v := (.bool true)) hF76 hM16 (wantedS rfl) (run_call rfl Tryd.func11 (by kernel_rfl) rfl (mapE0 )) rfl (by decide) (sfix_any w16 (HG.below hM16.below)) fun a77 w17 hb17 hF77 hM17 => ?_
  refine sq (v := (.bool true)) hF77 (wantedS rfl) (run_mv rfl (hF77.ev 77 rfl)) rfl (by decide) fun a78 hF78 => ?_
  refine sq (v := (.int .i64 0)) hF78 (wantedG hF78 rfl rfl rfl rfl rfl) (run_mv rfl (hF78.ev 9 rfl)) rfl (by decide) fun a79 hF79 => ?_
  refine sq (v := (.bool true)) hF79 (wantedG hF79 rfl rfl rfl rfl rfl) (run_eqi rfl (hF79.ev 79 rfl) rfl (beq_self_eq_true _)) rfl (by decide) fun a80 hF80 => ?_
  refine sq (v := (.bool true)) hF80 (wantedS rfl) (run_pick rfl (hF80.ev 78 rfl) (hF80.ev 80 rfl) rfl) rfl (by decide) fun a81 hF81 => ?_
  refine sq (v := (.bool true)) hF81 (wantedS rfl) (run_mv rfl (hF81.ev 81 rfl)) rfl (by decide) fun a82 hF82 => ?_
  refine sq (v := (.int .i64 0)) hF82 (wantedG hF82 rfl rfl rfl rfl rfl) (run_mv rfl (hF82.ev 12 rfl)) rfl (by decide) fun a83 hF83 => ?_
  refine sq (v := (.bool true)) hF83 (wantedG hF83 rfl rfl rfl rfl rfl) (run_eqi rfl (hF83.ev 83 rfl) rfl (beq_self_eq_true _)) rfl (by decide) fun a84 hF84 => ?_
  refine sq (v := (.bool true)) hF84 (wantedS rfl) (run_pick rfl (hF84.ev 82 rfl) (hF84.ev 84 rfl) rfl) rfl (by decide) fun a85 hF85 => ?_
  refine sq (v := (.bool true)) hF85 (wantedS rfl) (run_mv rfl (hF85.ev 85 rfl)) rfl (by decide) fun a86 hF86 => ?_
  refine sq (v := (.int .i64 0)) hF86 (wantedG hF86 rfl rfl rfl rfl rfl) (run_mv rfl (hF86.ev 15 rfl)) rfl (by decide) fun a87 hF87 => ?_
  refine sq (v := (.bool true)) hF87 (wantedG hF87 rfl rfl rfl rfl rfl) (run_eqi rfl (hF87.ev 87 rfl) rfl (beq_self_eq_true _)) rfl (by decide) fun a88 hF88 => ?_
  refine sq (v := (.bool true)) hF88 (wantedS rfl) (run_pick rfl (hF88.ev 86 rfl) (hF88.ev 88 rfl) rfl) rfl (by decide) fun a89 hF89 => ?_
  refine sq (v := (.bool true)) hF89 (wantedS rfl) (run_mv rfl (hF89.ev 89 rfl)) rfl (by decide) fun a90 hF90 => ?_
  refine sq (v := (.string ⟨y.toArray⟩)) hF90 (wantedG hF90 rfl rfl rfl rfl rfl) (run_mv rfl (hF90.ev 14 rfl)) rfl (by decide) fun a91 hF91 => ?_
  refine sq (v := (.string ⟨y.toArray⟩)) hF91 (wantedG hF91 rfl rfl rfl rfl rfl) (run_mv rfl (hF91.ev 2 rfl)) rfl (by decide) fun a92 hF92 => ?_
  refine sq (v := (.bool true)) hF92 (wantedG hF92 rfl rfl rfl rfl rfl) (run_eqs rfl (hF92.ev 91 rfl) (hF92.ev 92 rfl) (beq_self_eq_true _)) rfl (by decide) fun a93 hF93 => ?_
  refine sq (v := (.bool true)) hF93 (wantedS rfl) (run_pick rfl (hF93.ev 90 rfl) (hF93.ev 93 rfl) rfl) rfl (by decide) fun a94 hF94 => ?_
  refine sq (v := (.bool true)) hF94 (wantedS rfl) (run_mv rfl (hF94.ev 94 rfl)) rfl (by decide) fun a95 hF95 => ?_
  refine sq (v := (.agg (chA (goS (goS c))))) hF95 (wantedG hF95 rfl rfl rfl rfl rfl) (run_ldB rfl (hF95.ev 13 rfl) (hM17.at 2 rfl) Tryd.underlying26 rfl szCh (chA_size (goS_len _))) rfl (by decide) fun a96 hF96 => ?_
  refine sq (v := (.agg (chA (goS (goS c))))) hF96 (wantedG hF96 rfl rfl rfl rfl rfl) (run_ldB rfl (hF96.ev 10 rfl) (hM17.at 3 rfl) Tryd.underlying26 rfl szCh (chA_size (goS_len _))) rfl (by decide) fun a97 hF97 => ?_
  refine sq (v := (.bool true)) hF97 (wantedG hF97 rfl rfl rfl rfl rfl) (run_eqCh (goS_len _) rfl (hF97.ev 96 rfl) (hF97.ev 97 rfl)) rfl (by decide) fun a98 hF98 => ?_
  refine sq (v := (.bool true)) hF98 (wantedS rfl) (run_pick rfl (hF98.ev 95 rfl) (hF98.ev 98 rfl) rfl) rfl (by decide) fun a99 hF99 => ?_
  refine sq (v := (.bool true)) hF99 (wantedS rfl) (run_mv rfl (hF99.ev 99 rfl)) rfl (by decide) fun a100 hF100 => ?_
  refine sq (v := (.int .i64 19)) hF100 (wantedG hF100 rfl rfl rfl rfl rfl) (run_mv rfl (hF100.ev 18 rfl)) rfl (by decide) fun a101 hF101 => ?_
  refine sq (v := (.bool true)) hF101 (wantedG hF101 rfl rfl rfl rfl rfl) (run_eqi rfl (hF101.ev 101 rfl) rfl (beq_self_eq_true _)) rfl (by decide) fun a102 hF102 => ?_
  refine sq (v := (.bool true)) hF102 (wantedS rfl) (run_pick rfl (hF102.ev 100 rfl) (hF102.ev 102 rfl) rfl) rfl (by decide) fun a103 hF103 => ?_
  refine sq (v := (.bool true)) hF103 (wantedS rfl) (run_mv rfl (hF103.ev 103 rfl)) rfl (by decide) fun a104 hF104 => ?_
  refine sq (v := (.int .i64 19)) hF104 (wantedG hF104 rfl rfl rfl rfl rfl) (run_mv rfl (hF104.ev 21 rfl)) rfl (by decide) fun a105 hF105 => ?_
  refine sq (v := (.bool true)) hF105 (wantedG hF105 rfl rfl rfl rfl rfl) (run_eqi rfl (hF105.ev 105 rfl) rfl (beq_self_eq_true _)) rfl (by decide) fun a106 hF106 => ?_
  refine sq (v := (.bool true)) hF106 (wantedS rfl) (run_pick rfl (hF106.ev 104 rfl) (hF106.ev 106 rfl) rfl) rfl (by decide) fun a107 hF107 => ?_
  refine sq (v := (.bool true)) hF107 (wantedS rfl) (run_as rfl (hF107.ev 107 rfl)) rfl (by decide) fun a108 hF108 => ?_
  refine sqEnd ?_
  clear hF76 hF77 hF78 hF79 hF80 hF81 hF82 hF83 hF84 hF85 hF86 hF87 hF88 hF89 hF90 hF91 hF92 hF93 hF94 hF95 hF96 hF97 hF98 hF99 hF100 hF101 hF102 hF103 hF104 hF105 hF106 hF107 hM16
  refine nx ?_
  refine wp_ret ?_
  exact ret1 hF108 rfl rfl ⟨rfl, hM17.below⟩
end Go.Proofs.YtioioibcldgknaaDoor
