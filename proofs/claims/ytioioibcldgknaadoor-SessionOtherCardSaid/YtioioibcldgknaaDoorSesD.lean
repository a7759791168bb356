/- The walk of the law SessionOther. Printed by gen_ses5.py. -/
import Derived.Test.YtioioibcldgknaaDoorSes5
import Derived.Test.YtioioibcldgknaaDoorSes3
namespace Go.Proofs.YtioioibcldgknaaDoor
open Go.RowKit

attribute [local simp] xorS_len tagS_len keyedS_len nonceS_len
theorem rtake_eq {c c2 : Ch} {f s : List UInt8} {e : Int} (h : takeS c f = (c2, s, e)) (w : World) (hLc : c.k.length = 32) (hcn : c.n < 2 ^ 64) (hm : c.m.length < 2 ^ 27) (hf : f.length < 2 ^ 28) :
    Calls Tryd.prog 19 #[.agg (chA c), .string ⟨f.toArray⟩] w fun x w' => x = .returned (.tuple #[.agg (chA c2), .string ⟨s.toArray⟩, .int .i64 e]) ∧ Below w.heap.size w w' := by
  have h2 := rstake_any c f w hLc hcn hm hf
  rw [h] at h2
  exact h2
set_option maxRecDepth 100000 in
set_option maxHeartbeats 1000000 in
theorem lawSOther_any (c o : Ch) (d : List UInt8) (w : World) (HG : Glob w) (hLc : c.k.length = 32) (hcn : c.n < 2 ^ 64) (hLo : o.k.length = 32) (_hon : o.n < 2 ^ 64) (_hd : d.length ≤ maxLen) : Calls Tryd.prog 6 #[.agg (chA c), .agg (chA o), .string ⟨d.toArray⟩] w fun e w' => e = .returned (.bool true) ∧ Below w.heap.size w w' := by
  by_cases h1 : 100 < c.m.length
  · skip
    refine walk_enter Tryd.func6 rfl rfl rfl fun a0 hF0 => ?_
    have hM0 := Mem.new w
    refine wp_seq ?_
    refine wp_region_lit ?_
    refine sqNew (cs := (chA c)) (t := 26) hF0 hM0 (wantedS rfl) (run_box rfl (hF0.ev 0 rfl)) rfl (by decide) fun g0 a1 w1 hgg0 hb1 hF1 hM1 => ?_
    refine sqNew (cs := (chA o)) (t := 26) hF1 hM1 (wantedS rfl) (run_box rfl (hF1.ev 1 rfl)) rfl (by decide) fun g1 a2 w2 hgg1 hb2 hF2 hM2 => ?_
    refine sq (v := (.bool false)) hF2 (wantedS rfl) (run_as rfl rfl) rfl (by decide) fun a3 hF3 => ?_
    refine sqEnd ?_
    clear hF0 hF1 hF2 hM0 hM1
    refine nx ?_
    refine wp_seq ?_
    refine wp_seq ?_
    refine wp_region_lit ?_
    refine sq (v := (.pointer (some ⟨g0, 0, none⟩))) hF3 (wantedS rfl) (run_fldA (m := 1) (s := 0) rfl (hF3.ev 3 rfl) Tryd.underlying26 rfl rfl (by kernel_rfl) (by decide)) rfl (by decide) fun a4 hF4 => ?_
    refine sq (v := (.string ⟨c.m.toArray⟩)) hF4 (wantedS rfl) (run_ldF rfl (hF4.ev 17 rfl) (hM2.at 1 rfl) rfl (by kernel_rfl)) rfl (by decide) fun a5 hF5 => ?_
    refine sq (v := (.int .i64 (c.m.length : Int))) hF5 (wantedS rfl) (run_len rfl (hF5.ev 18 rfl) rfl Tryd.underlying9) rfl (by decide) fun a6 hF6 => ?_
    refine sq (v := (.bool true)) hF6 (wantedS rfl) (run_gtr rfl (hF6.ev 19 rfl) rfl (decide_eq_true (by omega))) rfl (by decide) fun a7 hF7 => ?_
    refine sq (v := (.bool true)) hF7 (wantedS rfl) (run_mv rfl (hF7.ev 20 rfl)) rfl (by decide) fun a8 hF8 => ?_
    refine sqSkip hF8 (unwantedG hF8 rfl rfl rfl rfl rfl) rfl (by decide) fun a9 hF9 => ?_
    refine sqSkip hF9 (unwantedG hF9 rfl rfl rfl rfl rfl) rfl (by decide) fun a10 hF10 => ?_
    refine sqSkip hF10 (unwantedG hF10 rfl rfl rfl rfl rfl) rfl (by decide) fun a11 hF11 => ?_
    refine sqSkip hF11 (unwantedG hF11 rfl rfl rfl rfl rfl) rfl (by decide) fun a12 hF12 => ?_
    refine sq (v := (.bool true)) hF12 (wantedS rfl) (run_pick rfl (hF12.ev 21 rfl) rfl (hF12.ev 25 rfl)) rfl (by decide) fun a13 hF13 => ?_
    refine sq (v := (.bool true)) hF13 (wantedS rfl) (run_mv rfl (hF13.ev 26 rfl)) rfl (by decide) fun a14 hF14 => ?_
    refine sqSkip hF14 (unwantedG hF14 rfl rfl rfl rfl rfl) rfl (by decide) fun a15 hF15 => ?_
    refine sqSkip hF15 (unwantedG hF15 rfl rfl rfl rfl rfl) rfl (by decide) fun a16 hF16 => ?_
    refine sqSkip hF16 (unwantedG hF16 rfl rfl rfl rfl rfl) rfl (by decide) fun a17 hF17 => ?_
    refine sq (v := (.bool true)) hF17 (wantedS rfl) (run_pick rfl (hF17.ev 27 rfl) rfl (hF17.ev 30 rfl)) rfl (by decide) fun a18 hF18 => ?_
    refine sqEnd ?_
    clear hF3 hF4 hF5 hF6 hF7 hF8 hF9 hF10 hF11 hF12 hF13 hF14 hF15 hF16 hF17
    refine nx ?_
    refine wp_cond_true (hF18.ev 31 rfl) ?_
    refine wp_seq ?_
    refine wp_region_lit ?_
    refine sqC (v := (.bool true)) hF18 hM2 (wantedS rfl) (run_call rfl Tryd.func11 (by kernel_rfl) rfl (mapE0 )) rfl (by decide) (sfix_any w2 (HG.below hM2.below)) fun a19 w3 hb3 hF19 hM3 => ?_
    refine sq (v := (.bool true)) hF19 (wantedS rfl) (run_as rfl (hF19.ev 32 rfl)) rfl (by decide) fun a20 hF20 => ?_
    refine sqEnd ?_
    clear hF18 hF19 hM2
    refine nx ?_
    refine wp_ret ?_
    refine nxRet ?_
    exact ret1 hF20 rfl rfl ⟨rfl, hM3.below⟩
  by_cases h2 : 100 < o.m.length
  · skip
    refine walk_enter Tryd.func6 rfl rfl rfl fun a0 hF0 => ?_
    have hM0 := Mem.new w
    refine wp_seq ?_
    refine wp_region_lit ?_
    refine sqNew (cs := (chA c)) (t := 26) hF0 hM0 (wantedS rfl) (run_box rfl (hF0.ev 0 rfl)) rfl (by decide) fun g0 a1 w1 hgg0 hb1 hF1 hM1 => ?_
    refine sqNew (cs := (chA o)) (t := 26) hF1 hM1 (wantedS rfl) (run_box rfl (hF1.ev 1 rfl)) rfl (by decide) fun g1 a2 w2 hgg1 hb2 hF2 hM2 => ?_
    refine sq (v := (.bool false)) hF2 (wantedS rfl) (run_as rfl rfl) rfl (by decide) fun a3 hF3 => ?_
    refine sqEnd ?_
    clear hF0 hF1 hF2 hM0 hM1
    refine nx ?_
    refine wp_seq ?_
    refine wp_seq ?_
    refine wp_region_lit ?_
    refine sq (v := (.pointer (some ⟨g0, 0, none⟩))) hF3 (wantedS rfl) (run_fldA (m := 1) (s := 0) rfl (hF3.ev 3 rfl) Tryd.underlying26 rfl rfl (by kernel_rfl) (by decide)) rfl (by decide) fun a4 hF4 => ?_
    refine sq (v := (.string ⟨c.m.toArray⟩)) hF4 (wantedS rfl) (run_ldF rfl (hF4.ev 17 rfl) (hM2.at 1 rfl) rfl (by kernel_rfl)) rfl (by decide) fun a5 hF5 => ?_
    refine sq (v := (.int .i64 (c.m.length : Int))) hF5 (wantedS rfl) (run_len rfl (hF5.ev 18 rfl) rfl Tryd.underlying9) rfl (by decide) fun a6 hF6 => ?_
    refine sq (v := (.bool false)) hF6 (wantedS rfl) (run_gtr rfl (hF6.ev 19 rfl) rfl (decide_eq_false (by omega))) rfl (by decide) fun a7 hF7 => ?_
    refine sq (v := (.bool false)) hF7 (wantedS rfl) (run_mv rfl (hF7.ev 20 rfl)) rfl (by decide) fun a8 hF8 => ?_
    refine sq (v := (.pointer (some ⟨g1, 0, none⟩))) hF8 (wantedG hF8 rfl rfl rfl rfl rfl) (run_fldA (m := 1) (s := 0) rfl (hF8.ev 4 rfl) Tryd.underlying26 rfl rfl (by kernel_rfl) (by decide)) rfl (by decide) fun a9 hF9 => ?_
    refine sq (v := (.string ⟨o.m.toArray⟩)) hF9 (wantedG hF9 rfl rfl rfl rfl rfl) (run_ldF rfl (hF9.ev 22 rfl) (hM2.at 0 rfl) rfl (by kernel_rfl)) rfl (by decide) fun a10 hF10 => ?_
    refine sq (v := (.int .i64 (o.m.length : Int))) hF10 (wantedG hF10 rfl rfl rfl rfl rfl) (run_len rfl (hF10.ev 23 rfl) rfl Tryd.underlying9) rfl (by decide) fun a11 hF11 => ?_
    refine sq (v := (.bool true)) hF11 (wantedG hF11 rfl rfl rfl rfl rfl) (run_gtr rfl (hF11.ev 24 rfl) rfl (decide_eq_true (by omega))) rfl (by decide) fun a12 hF12 => ?_
    refine sq (v := (.bool true)) hF12 (wantedS rfl) (run_pick rfl (hF12.ev 21 rfl) rfl (hF12.ev 25 rfl)) rfl (by decide) fun a13 hF13 => ?_
    refine sq (v := (.bool true)) hF13 (wantedS rfl) (run_mv rfl (hF13.ev 26 rfl)) rfl (by decide) fun a14 hF14 => ?_
    refine sqSkip hF14 (unwantedG hF14 rfl rfl rfl rfl rfl) rfl (by decide) fun a15 hF15 => ?_
    refine sqSkip hF15 (unwantedG hF15 rfl rfl rfl rfl rfl) rfl (by decide) fun a16 hF16 => ?_
    refine sqSkip hF16 (unwantedG hF16 rfl rfl rfl rfl rfl) rfl (by decide) fun a17 hF17 => ?_
    refine sq (v := (.bool true)) hF17 (wantedS rfl) (run_pick rfl (hF17.ev 27 rfl) rfl (hF17.ev 30 rfl)) rfl (by decide) fun a18 hF18 => ?_
    refine sqEnd ?_
    clear hF3 hF4 hF5 hF6 hF7 hF8 hF9 hF10 hF11 hF12 hF13 hF14 hF15 hF16 hF17
    refine nx ?_
    refine wp_cond_true (hF18.ev 31 rfl) ?_
    refine wp_seq ?_
    refine wp_region_lit ?_
    refine sqC (v := (.bool true)) hF18 hM2 (wantedS rfl) (run_call rfl Tryd.func11 (by kernel_rfl) rfl (mapE0 )) rfl (by decide) (sfix_any w2 (HG.below hM2.below)) fun a19 w3 hb3 hF19 hM3 => ?_
    refine sq (v := (.bool true)) hF19 (wantedS rfl) (run_as rfl (hF19.ev 32 rfl)) rfl (by decide) fun a20 hF20 => ?_
    refine sqEnd ?_
    clear hF18 hF19 hM2
    refine nx ?_
    refine wp_ret ?_
    refine nxRet ?_
    exact ret1 hF20 rfl rfl ⟨rfl, hM3.below⟩
  by_cases h3 : 100 < d.length
  · skip
    refine walk_enter Tryd.func6 rfl rfl rfl fun a0 hF0 => ?_
    have hM0 := Mem.new w
    refine wp_seq ?_
    refine wp_region_lit ?_
    refine sqNew (cs := (chA c)) (t := 26) hF0 hM0 (wantedS rfl) (run_box rfl (hF0.ev 0 rfl)) rfl (by decide) fun g0 a1 w1 hgg0 hb1 hF1 hM1 => ?_
    refine sqNew (cs := (chA o)) (t := 26) hF1 hM1 (wantedS rfl) (run_box rfl (hF1.ev 1 rfl)) rfl (by decide) fun g1 a2 w2 hgg1 hb2 hF2 hM2 => ?_
    refine sq (v := (.bool false)) hF2 (wantedS rfl) (run_as rfl rfl) rfl (by decide) fun a3 hF3 => ?_
    refine sqEnd ?_
    clear hF0 hF1 hF2 hM0 hM1
    refine nx ?_
    refine wp_seq ?_
    refine wp_seq ?_
    refine wp_region_lit ?_
    refine sq (v := (.pointer (some ⟨g0, 0, none⟩))) hF3 (wantedS rfl) (run_fldA (m := 1) (s := 0) rfl (hF3.ev 3 rfl) Tryd.underlying26 rfl rfl (by kernel_rfl) (by decide)) rfl (by decide) fun a4 hF4 => ?_
    refine sq (v := (.string ⟨c.m.toArray⟩)) hF4 (wantedS rfl) (run_ldF rfl (hF4.ev 17 rfl) (hM2.at 1 rfl) rfl (by kernel_rfl)) rfl (by decide) fun a5 hF5 => ?_
    refine sq (v := (.int .i64 (c.m.length : Int))) hF5 (wantedS rfl) (run_len rfl (hF5.ev 18 rfl) rfl Tryd.underlying9) rfl (by decide) fun a6 hF6 => ?_
    refine sq (v := (.bool false)) hF6 (wantedS rfl) (run_gtr rfl (hF6.ev 19 rfl) rfl (decide_eq_false (by omega))) rfl (by decide) fun a7 hF7 => ?_
    refine sq (v := (.bool false)) hF7 (wantedS rfl) (run_mv rfl (hF7.ev 20 rfl)) rfl (by decide) fun a8 hF8 => ?_
    refine sq (v := (.pointer (some ⟨g1, 0, none⟩))) hF8 (wantedG hF8 rfl rfl rfl rfl rfl) (run_fldA (m := 1) (s := 0) rfl (hF8.ev 4 rfl) Tryd.underlying26 rfl rfl (by kernel_rfl) (by decide)) rfl (by decide) fun a9 hF9 => ?_
    refine sq (v := (.string ⟨o.m.toArray⟩)) hF9 (wantedG hF9 rfl rfl rfl rfl rfl) (run_ldF rfl (hF9.ev 22 rfl) (hM2.at 0 rfl) rfl (by kernel_rfl)) rfl (by decide) fun a10 hF10 => ?_
    refine sq (v := (.int .i64 (o.m.length : Int))) hF10 (wantedG hF10 rfl rfl rfl rfl rfl) (run_len rfl (hF10.ev 23 rfl) rfl Tryd.underlying9) rfl (by decide) fun a11 hF11 => ?_
    refine sq (v := (.bool false)) hF11 (wantedG hF11 rfl rfl rfl rfl rfl) (run_gtr rfl (hF11.ev 24 rfl) rfl (decide_eq_false (by omega))) rfl (by decide) fun a12 hF12 => ?_
    refine sq (v := (.bool false)) hF12 (wantedS rfl) (run_pick rfl (hF12.ev 21 rfl) rfl (hF12.ev 25 rfl)) rfl (by decide) fun a13 hF13 => ?_
    refine sq (v := (.bool false)) hF13 (wantedS rfl) (run_mv rfl (hF13.ev 26 rfl)) rfl (by decide) fun a14 hF14 => ?_
    refine sq (v := (.string ⟨d.toArray⟩)) hF14 (wantedG hF14 rfl rfl rfl rfl rfl) (run_mv rfl (hF14.ev 2 rfl)) rfl (by decide) fun a15 hF15 => ?_
    refine sq (v := (.int .i64 (d.length : Int))) hF15 (wantedG hF15 rfl rfl rfl rfl rfl) (run_len rfl (hF15.ev 28 rfl) rfl Tryd.underlying9) rfl (by decide) fun a16 hF16 => ?_
    refine sq (v := (.bool true)) hF16 (wantedG hF16 rfl rfl rfl rfl rfl) (run_gtr rfl (hF16.ev 29 rfl) rfl (decide_eq_true (by omega))) rfl (by decide) fun a17 hF17 => ?_
    refine sq (v := (.bool true)) hF17 (wantedS rfl) (run_pick rfl (hF17.ev 27 rfl) rfl (hF17.ev 30 rfl)) rfl (by decide) fun a18 hF18 => ?_
    refine sqEnd ?_
    clear hF3 hF4 hF5 hF6 hF7 hF8 hF9 hF10 hF11 hF12 hF13 hF14 hF15 hF16 hF17
    refine nx ?_
    refine wp_cond_true (hF18.ev 31 rfl) ?_
    refine wp_seq ?_
    refine wp_region_lit ?_
    refine sqC (v := (.bool true)) hF18 hM2 (wantedS rfl) (run_call rfl Tryd.func11 (by kernel_rfl) rfl (mapE0 )) rfl (by decide) (sfix_any w2 (HG.below hM2.below)) fun a19 w3 hb3 hF19 hM3 => ?_
    refine sq (v := (.bool true)) hF19 (wantedS rfl) (run_as rfl (hF19.ev 32 rfl)) rfl (by decide) fun a20 hF20 => ?_
    refine sqEnd ?_
    clear hF18 hF19 hM2
    refine nx ?_
    refine wp_ret ?_
    refine nxRet ?_
    exact ret1 hF20 rfl rfl ⟨rfl, hM3.below⟩
  obtain ⟨o2, ho2⟩ : ∃ o2 : Ch, o2 = ⟨o.m, c.n, o.k⟩ := ⟨_, rfl⟩
  have hm2 : o2.m = o.m := by rw [ho2]
  have hn2 : o2.n = c.n := by rw [ho2]
  have hLo2 : o2.k.length = 32 := by rw [ho2]; exact hLo
  have hm2l : o2.m.length ≤ 100 := by rw [hm2]; omega
  by_cases hmx : c.n = mostN
  · have hS1 : sendS c d = (noCh, [], 2) := by unfold sendS; rw [if_neg (by omega), if_pos hmx]
    unfold mostN at hmx
    refine walk_enter Tryd.func6 rfl rfl rfl fun a0 hF0 => ?_
    have hM0 := Mem.new w
    refine wp_seq ?_
    refine wp_region_lit ?_
    refine sqNew (cs := (chA c)) (t := 26) hF0 hM0 (wantedS rfl) (run_box rfl (hF0.ev 0 rfl)) rfl (by decide) fun g0 a1 w1 hgg0 hb1 hF1 hM1 => ?_
    refine sqNew (cs := (chA o)) (t := 26) hF1 hM1 (wantedS rfl) (run_box rfl (hF1.ev 1 rfl)) rfl (by decide) fun g1 a2 w2 hgg1 hb2 hF2 hM2 => ?_
    refine sq (v := (.bool false)) hF2 (wantedS rfl) (run_as rfl rfl) rfl (by decide) fun a3 hF3 => ?_
    refine sqEnd ?_
    clear hF0 hF1 hF2 hM0 hM1
    refine nx ?_
    refine wp_seq ?_
    refine wp_seq ?_
    refine wp_region_lit ?_
    refine sq (v := (.pointer (some ⟨g0, 0, none⟩))) hF3 (wantedS rfl) (run_fldA (m := 1) (s := 0) rfl (hF3.ev 3 rfl) Tryd.underlying26 rfl rfl (by kernel_rfl) (by decide)) rfl (by decide) fun a4 hF4 => ?_
    refine sq (v := (.string ⟨c.m.toArray⟩)) hF4 (wantedS rfl) (run_ldF rfl (hF4.ev 17 rfl) (hM2.at 1 rfl) rfl (by kernel_rfl)) rfl (by decide) fun a5 hF5 => ?_
    refine sq (v := (.int .i64 (c.m.length : Int))) hF5 (wantedS rfl) (run_len rfl (hF5.ev 18 rfl) rfl Tryd.underlying9) rfl (by decide) fun a6 hF6 => ?_
    refine sq (v := (.bool false)) hF6 (wantedS rfl) (run_gtr rfl (hF6.ev 19 rfl) rfl (decide_eq_false (by omega))) rfl (by decide) fun a7 hF7 => ?_
    refine sq (v := (.bool false)) hF7 (wantedS rfl) (run_mv rfl (hF7.ev 20 rfl)) rfl (by decide) fun a8 hF8 => ?_
    refine sq (v := (.pointer (some ⟨g1, 0, none⟩))) hF8 (wantedG hF8 rfl rfl rfl rfl rfl) (run_fldA (m := 1) (s := 0) rfl (hF8.ev 4 rfl) Tryd.underlying26 rfl rfl (by kernel_rfl) (by decide)) rfl (by decide) fun a9 hF9 => ?_
    refine sq (v := (.string ⟨o.m.toArray⟩)) hF9 (wantedG hF9 rfl rfl rfl rfl rfl) (run_ldF rfl (hF9.ev 22 rfl) (hM2.at 0 rfl) rfl (by kernel_rfl)) rfl (by decide) fun a10 hF10 => ?_
    refine sq (v := (.int .i64 (o.m.length : Int))) hF10 (wantedG hF10 rfl rfl rfl rfl rfl) (run_len rfl (hF10.ev 23 rfl) rfl Tryd.underlying9) rfl (by decide) fun a11 hF11 => ?_
    refine sq (v := (.bool false)) hF11 (wantedG hF11 rfl rfl rfl rfl rfl) (run_gtr rfl (hF11.ev 24 rfl) rfl (decide_eq_false (by omega))) rfl (by decide) fun a12 hF12 => ?_
    refine sq (v := (.bool false)) hF12 (wantedS rfl) (run_pick rfl (hF12.ev 21 rfl) rfl (hF12.ev 25 rfl)) rfl (by decide) fun a13 hF13 => ?_
    refine sq (v := (.bool false)) hF13 (wantedS rfl) (run_mv rfl (hF13.ev 26 rfl)) rfl (by decide) fun a14 hF14 => ?_
    refine sq (v := (.string ⟨d.toArray⟩)) hF14 (wantedG hF14 rfl rfl rfl rfl rfl) (run_mv rfl (hF14.ev 2 rfl)) rfl (by decide) fun a15 hF15 => ?_
    refine sq (v := (.int .i64 (d.length : Int))) hF15 (wantedG hF15 rfl rfl rfl rfl rfl) (run_len rfl (hF15.ev 28 rfl) rfl Tryd.underlying9) rfl (by decide) fun a16 hF16 => ?_
    refine sq (v := (.bool false)) hF16 (wantedG hF16 rfl rfl rfl rfl rfl) (run_gtr rfl (hF16.ev 29 rfl) rfl (decide_eq_false (by omega))) rfl (by decide) fun a17 hF17 => ?_
    refine sq (v := (.bool false)) hF17 (wantedS rfl) (run_pick rfl (hF17.ev 27 rfl) rfl (hF17.ev 30 rfl)) rfl (by decide) fun a18 hF18 => ?_
    refine sqEnd ?_
    clear hF3 hF4 hF5 hF6 hF7 hF8 hF9 hF10 hF11 hF12 hF13 hF14 hF15 hF16 hF17
    refine nx ?_
    refine wp_cond_false (hF18.ev 31 rfl) ?_
    refine wp_skip ?_
    refine nx ?_
    refine wp_seq ?_
    refine wp_region_lit ?_
    refine sq (v := (.agg (chA c))) hF18 (wantedS rfl) (run_ldB rfl (hF18.ev 3 rfl) (hM2.at 1 rfl) Tryd.underlying26 rfl szCh (chA_size hLc)) rfl (by decide) fun a19 hF19 => ?_
    refine sq (v := (.string ⟨d.toArray⟩)) hF19 (wantedS rfl) (run_mv rfl (hF19.ev 2 rfl)) rfl (by decide) fun a20 hF20 => ?_
    refine sqC (v := (.tuple #[(.agg (chA noCh)), (.string ⟨List.toArray []⟩), (.int .i64 2)])) hF20 hM2 (wantedS rfl) (run_call rfl Tryd.func12 (by kernel_rfl) rfl (mapE2 (hF20.ev 34 rfl) (hF20.ev 35 rfl))) rfl (by decide) (send_eq hS1 w2 (HG.below hM2.below) hLc (by first | omega | decide | (simp; done) | (simp; omega)) (by first | omega | decide | (simp; done) | (simp; omega))) fun a21 w3 hb3 hF21 hM3 => ?_
    refine sq (v := (.tuple #[(.agg (chA noCh)), (.string ⟨List.toArray []⟩), (.int .i64 2)])) hF21 (wantedS rfl) (run_mv rfl (hF21.ev 36 rfl)) rfl (by decide) fun a22 hF22 => ?_
    refine sq (v := (.agg (chA noCh))) hF22 (wantedS rfl) (run_ext rfl (hF22.ev 33 rfl) rfl) rfl (by decide) fun a23 hF23 => ?_
    refine sq (v := (.string ⟨List.toArray []⟩)) hF23 (wantedS rfl) (run_ext rfl (hF23.ev 33 rfl) rfl) rfl (by decide) fun a24 hF24 => ?_
    refine sq (v := (.int .i64 2)) hF24 (wantedS rfl) (run_ext rfl (hF24.ev 33 rfl) rfl) rfl (by decide) fun a25 hF25 => ?_
    refine sqNew (cs := (chA noCh)) (t := 26) hF25 hM3 (wantedS rfl) (run_alloc rfl (by kernel_rfl)) rfl (by decide) fun g2 a26 w4 hgg2 hb4 hF26 hM4 => ?_
    refine sqStore (i := 0) hF26 hM4 rfl rfl rfl (hF26.ev 7 rfl) (hF26.ev 37 rfl) rfl szCh (chA_size noCh_len) (chA_size noCh_len) (chA_one _) fun a27 w5 hF27 hM5 => ?_
    refine sq (v := (.string ⟨List.toArray []⟩)) hF27 (wantedS rfl) (run_as rfl (hF27.ev 38 rfl)) rfl (by decide) fun a28 hF28 => ?_
    refine sq (v := (.int .i64 2)) hF28 (wantedS rfl) (run_as rfl (hF28.ev 39 rfl)) rfl (by decide) fun a29 hF29 => ?_
    refine sqEnd ?_
    clear hF18 hF19 hF20 hF21 hF22 hF23 hF24 hF25 hF26 hF27 hF28 hM2 hM3 hM4
    refine nx ?_
    refine wp_seq ?_
    refine wp_region_lit ?_
    refine sq (v := (.pointer (some ⟨g0, 1, none⟩))) hF29 (wantedS rfl) (run_fldA (m := 1) (s := 1) rfl (hF29.ev 3 rfl) Tryd.underlying26 rfl rfl (by kernel_rfl) (by decide)) rfl (by decide) fun a30 hF30 => ?_
    refine sq (v := (.int .u64 (c.n : Int))) hF30 (wantedS rfl) (run_ldF rfl (hF30.ev 40 rfl) (hM5.at 2 rfl) rfl (by kernel_rfl)) rfl (by decide) fun a31 hF31 => ?_
    refine sq (v := (.pointer (some ⟨g1, 1, none⟩))) hF31 (wantedS rfl) (run_fldA (m := 1) (s := 1) rfl (hF31.ev 4 rfl) Tryd.underlying26 rfl rfl (by kernel_rfl) (by decide)) rfl (by decide) fun a32 hF32 => ?_
    refine sqSetN (j := 1) (u := c.n) (c2 := o2) hF32 hM5 rfl rfl rfl (hF32.ev 42 rfl) (hF32.ev 41 rfl) rfl ho2 fun a33 w6 hgr6 hF33 hM6 => ?_
    refine sqEnd ?_
    clear hF29 hF30 hF31 hF32 hM5
    refine nx ?_
    refine wp_seq ?_
    refine wp_region_lit ?_
    refine sq (v := (.agg (chA o2))) hF33 (wantedS rfl) (run_ldB rfl (hF33.ev 4 rfl) (hM6.at 1 rfl) Tryd.underlying26 rfl szCh (chA_size hLo2)) rfl (by decide) fun a34 hF34 => ?_
    refine sq (v := (.string ⟨List.toArray []⟩)) hF34 (wantedS rfl) (run_mv rfl (hF34.ev 8 rfl)) rfl (by decide) fun a35 hF35 => ?_
    refine sqC (v := (.tuple #[(.agg (chA ((takeS o2 []).1))), (.string ⟨((takeS o2 []).2.1).toArray⟩), (.int .i64 ((takeS o2 []).2.2))])) hF35 hM6 (wantedS rfl) (run_call rfl Tryd.func19 (by kernel_rfl) rfl (mapE2 (hF35.ev 44 rfl) (hF35.ev 45 rfl))) rfl (by decide) (rstake_any o2 [] w6 hLo2 (by first | omega | decide | (simp; done) | (simp; omega)) (by first | omega | decide | (simp; done) | (simp; omega)) (by first | omega | decide | (simp; done) | (simp; omega))) fun a36 w7 hb7 hF36 hM7 => ?_
    refine sq (v := (.tuple #[(.agg (chA ((takeS o2 []).1))), (.string ⟨((takeS o2 []).2.1).toArray⟩), (.int .i64 ((takeS o2 []).2.2))])) hF36 (wantedS rfl) (run_mv rfl (hF36.ev 46 rfl)) rfl (by decide) fun a37 hF37 => ?_
    refine sq (v := (.agg (chA ((takeS o2 []).1)))) hF37 (wantedS rfl) (run_ext rfl (hF37.ev 43 rfl) rfl) rfl (by decide) fun a38 hF38 => ?_
    refine sq (v := (.string ⟨((takeS o2 []).2.1).toArray⟩)) hF38 (wantedS rfl) (run_ext rfl (hF38.ev 43 rfl) rfl) rfl (by decide) fun a39 hF39 => ?_
    refine sq (v := (.int .i64 ((takeS o2 []).2.2))) hF39 (wantedS rfl) (run_ext rfl (hF39.ev 43 rfl) rfl) rfl (by decide) fun a40 hF40 => ?_
    refine sqNew (cs := (chA noCh)) (t := 26) hF40 hM7 (wantedS rfl) (run_alloc rfl (by kernel_rfl)) rfl (by decide) fun g3 a41 w8 hgg3 hb8 hF41 hM8 => ?_
    refine sqStore (i := 0) hF41 hM8 rfl rfl rfl (hF41.ev 10 rfl) (hF41.ev 47 rfl) rfl szCh (chA_size (takeS_k _ _)) (chA_size noCh_len) (chA_one _) fun a42 w9 hF42 hM9 => ?_
    refine sq (v := (.string ⟨((takeS o2 []).2.1).toArray⟩)) hF42 (wantedS rfl) (run_as rfl (hF42.ev 48 rfl)) rfl (by decide) fun a43 hF43 => ?_
    refine sq (v := (.int .i64 ((takeS o2 []).2.2))) hF43 (wantedS rfl) (run_as rfl (hF43.ev 49 rfl)) rfl (by decide) fun a44 hF44 => ?_
    refine sqEnd ?_
    clear hF33 hF34 hF35 hF36 hF37 hF38 hF39 hF40 hF41 hF42 hF43 hM6 hM7 hM8
    refine nx ?_
    refine wp_seq ?_
    refine wp_seq ?_
    refine wp_region_lit ?_
    refine sq (v := (.int .i64 2)) hF44 (wantedS rfl) (run_mv rfl (hF44.ev 9 rfl)) rfl (by decide) fun a45 hF45 => ?_
    refine sq (v := (.bool true)) hF45 (wantedS rfl) (run_nei rfl (hF45.ev 50 rfl) rfl rfl) rfl (by decide) fun a46 hF46 => ?_
    refine sq (v := (.bool true)) hF46 (wantedS rfl) (run_mv rfl (hF46.ev 51 rfl)) rfl (by decide) fun a47 hF47 => ?_
    refine sqSkip hF47 (unwantedG hF47 rfl rfl rfl rfl rfl) rfl (by decide) fun a48 hF48 => ?_
    refine sqSkip hF48 (unwantedG hF48 rfl rfl rfl rfl rfl) rfl (by decide) fun a49 hF49 => ?_
    refine sq (v := (.bool true)) hF49 (wantedS rfl) (run_pick rfl (hF49.ev 52 rfl) rfl (hF49.ev 54 rfl)) rfl (by decide) fun a50 hF50 => ?_
    refine sqEnd ?_
    clear hF44 hF45 hF46 hF47 hF48 hF49
    refine nx ?_
    refine wp_cond_true (hF50.ev 55 rfl) ?_
    refine wp_seq ?_
    refine wp_region_lit ?_
    refine sqC (v := (.bool true)) hF50 hM9 (wantedS rfl) (run_call rfl Tryd.func11 (by kernel_rfl) rfl (mapE0 )) rfl (by decide) (sfix_any w9 (HG.below hM9.below)) fun a51 w10 hb10 hF51 hM10 => ?_
    refine sq (v := (.bool true)) hF51 (wantedS rfl) (run_as rfl (hF51.ev 56 rfl)) rfl (by decide) fun a52 hF52 => ?_
    refine sqEnd ?_
    clear hF50 hF51 hM9
    refine nx ?_
    refine wp_ret ?_
    refine nxRet ?_
    exact ret1 hF52 rfl rfl ⟨rfl, hM10.below⟩
  have hS1 : sendS c d = (goS c, frameS c d, 0) := sendS_ok _ _ (by omega) hmx
  have hfl := frameS_len c d (by omega) (by omega)
  have hlt : c.n < mostN := by unfold mostN at hmx ⊢; omega
  by_cases hok : (takeS o2 (frameS c d)).2.2 = 0
  · generalize hfr : frameS c d = fr at hS1 hfl hok
    refine walk_enter Tryd.func6 rfl rfl rfl fun a0 hF0 => ?_
    have hM0 := Mem.new w
    refine wp_seq ?_
    refine wp_region_lit ?_
    refine sqNew (cs := (chA c)) (t := 26) hF0 hM0 (wantedS rfl) (run_box rfl (hF0.ev 0 rfl)) rfl (by decide) fun g0 a1 w1 hgg0 hb1 hF1 hM1 => ?_
    refine sqNew (cs := (chA o)) (t := 26) hF1 hM1 (wantedS rfl) (run_box rfl (hF1.ev 1 rfl)) rfl (by decide) fun g1 a2 w2 hgg1 hb2 hF2 hM2 => ?_
    refine sq (v := (.bool false)) hF2 (wantedS rfl) (run_as rfl rfl) rfl (by decide) fun a3 hF3 => ?_
    refine sqEnd ?_
    clear hF0 hF1 hF2 hM0 hM1
    refine nx ?_
    refine wp_seq ?_
    refine wp_seq ?_
    refine wp_region_lit ?_
    refine sq (v := (.pointer (some ⟨g0, 0, none⟩))) hF3 (wantedS rfl) (run_fldA (m := 1) (s := 0) rfl (hF3.ev 3 rfl) Tryd.underlying26 rfl rfl (by kernel_rfl) (by decide)) rfl (by decide) fun a4 hF4 => ?_
    refine sq (v := (.string ⟨c.m.toArray⟩)) hF4 (wantedS rfl) (run_ldF rfl (hF4.ev 17 rfl) (hM2.at 1 rfl) rfl (by kernel_rfl)) rfl (by decide) fun a5 hF5 => ?_
    refine sq (v := (.int .i64 (c.m.length : Int))) hF5 (wantedS rfl) (run_len rfl (hF5.ev 18 rfl) rfl Tryd.underlying9) rfl (by decide) fun a6 hF6 => ?_
    refine sq (v := (.bool false)) hF6 (wantedS rfl) (run_gtr rfl (hF6.ev 19 rfl) rfl (decide_eq_false (by omega))) rfl (by decide) fun a7 hF7 => ?_
    refine sq (v := (.bool false)) hF7 (wantedS rfl) (run_mv rfl (hF7.ev 20 rfl)) rfl (by decide) fun a8 hF8 => ?_
    refine sq (v := (.pointer (some ⟨g1, 0, none⟩))) hF8 (wantedG hF8 rfl rfl rfl rfl rfl) (run_fldA (m := 1) (s := 0) rfl (hF8.ev 4 rfl) Tryd.underlying26 rfl rfl (by kernel_rfl) (by decide)) rfl (by decide) fun a9 hF9 => ?_
    refine sq (v := (.string ⟨o.m.toArray⟩)) hF9 (wantedG hF9 rfl rfl rfl rfl rfl) (run_ldF rfl (hF9.ev 22 rfl) (hM2.at 0 rfl) rfl (by kernel_rfl)) rfl (by decide) fun a10 hF10 => ?_
    refine sq (v := (.int .i64 (o.m.length : Int))) hF10 (wantedG hF10 rfl rfl rfl rfl rfl) (run_len rfl (hF10.ev 23 rfl) rfl Tryd.underlying9) rfl (by decide) fun a11 hF11 => ?_
    refine sq (v := (.bool false)) hF11 (wantedG hF11 rfl rfl rfl rfl rfl) (run_gtr rfl (hF11.ev 24 rfl) rfl (decide_eq_false (by omega))) rfl (by decide) fun a12 hF12 => ?_
    refine sq (v := (.bool false)) hF12 (wantedS rfl) (run_pick rfl (hF12.ev 21 rfl) rfl (hF12.ev 25 rfl)) rfl (by decide) fun a13 hF13 => ?_
    refine sq (v := (.bool false)) hF13 (wantedS rfl) (run_mv rfl (hF13.ev 26 rfl)) rfl (by decide) fun a14 hF14 => ?_
    refine sq (v := (.string ⟨d.toArray⟩)) hF14 (wantedG hF14 rfl rfl rfl rfl rfl) (run_mv rfl (hF14.ev 2 rfl)) rfl (by decide) fun a15 hF15 => ?_
    refine sq (v := (.int .i64 (d.length : Int))) hF15 (wantedG hF15 rfl rfl rfl rfl rfl) (run_len rfl (hF15.ev 28 rfl) rfl Tryd.underlying9) rfl (by decide) fun a16 hF16 => ?_
    refine sq (v := (.bool false)) hF16 (wantedG hF16 rfl rfl rfl rfl rfl) (run_gtr rfl (hF16.ev 29 rfl) rfl (decide_eq_false (by omega))) rfl (by decide) fun a17 hF17 => ?_
    refine sq (v := (.bool false)) hF17 (wantedS rfl) (run_pick rfl (hF17.ev 27 rfl) rfl (hF17.ev 30 rfl)) rfl (by decide) fun a18 hF18 => ?_
    refine sqEnd ?_
    clear hF3 hF4 hF5 hF6 hF7 hF8 hF9 hF10 hF11 hF12 hF13 hF14 hF15 hF16 hF17
    refine nx ?_
    refine wp_cond_false (hF18.ev 31 rfl) ?_
    refine wp_skip ?_
    refine nx ?_
    refine wp_seq ?_
    refine wp_region_lit ?_
    refine sq (v := (.agg (chA c))) hF18 (wantedS rfl) (run_ldB rfl (hF18.ev 3 rfl) (hM2.at 1 rfl) Tryd.underlying26 rfl szCh (chA_size hLc)) rfl (by decide) fun a19 hF19 => ?_
    refine sq (v := (.string ⟨d.toArray⟩)) hF19 (wantedS rfl) (run_mv rfl (hF19.ev 2 rfl)) rfl (by decide) fun a20 hF20 => ?_
    refine sqC (v := (.tuple #[(.agg (chA (goS c))), (.string ⟨fr.toArray⟩), (.int .i64 0)])) hF20 hM2 (wantedS rfl) (run_call rfl Tryd.func12 (by kernel_rfl) rfl (mapE2 (hF20.ev 34 rfl) (hF20.ev 35 rfl))) rfl (by decide) (send_eq hS1 w2 (HG.below hM2.below) hLc (by first | omega | decide | (simp; done) | (simp; omega)) (by first | omega | decide | (simp; done) | (simp; omega))) fun a21 w3 hb3 hF21 hM3 => ?_
    refine sq (v := (.tuple #[(.agg (chA (goS c))), (.string ⟨fr.toArray⟩), (.int .i64 0)])) hF21 (wantedS rfl) (run_mv rfl (hF21.ev 36 rfl)) rfl (by decide) fun a22 hF22 => ?_
    refine sq (v := (.agg (chA (goS c)))) hF22 (wantedS rfl) (run_ext rfl (hF22.ev 33 rfl) rfl) rfl (by decide) fun a23 hF23 => ?_
    refine sq (v := (.string ⟨fr.toArray⟩)) hF23 (wantedS rfl) (run_ext rfl (hF23.ev 33 rfl) rfl) rfl (by decide) fun a24 hF24 => ?_
    refine sq (v := (.int .i64 0)) hF24 (wantedS rfl) (run_ext rfl (hF24.ev 33 rfl) rfl) rfl (by decide) fun a25 hF25 => ?_
    refine sqNew (cs := (chA noCh)) (t := 26) hF25 hM3 (wantedS rfl) (run_alloc rfl (by kernel_rfl)) rfl (by decide) fun g2 a26 w4 hgg2 hb4 hF26 hM4 => ?_
    refine sqStore (i := 0) hF26 hM4 rfl rfl rfl (hF26.ev 7 rfl) (hF26.ev 37 rfl) rfl szCh (chA_size (goS_len _)) (chA_size noCh_len) (chA_one _) fun a27 w5 hF27 hM5 => ?_
    refine sq (v := (.string ⟨fr.toArray⟩)) hF27 (wantedS rfl) (run_as rfl (hF27.ev 38 rfl)) rfl (by decide) fun a28 hF28 => ?_
    refine sq (v := (.int .i64 0)) hF28 (wantedS rfl) (run_as rfl (hF28.ev 39 rfl)) rfl (by decide) fun a29 hF29 => ?_
    refine sqEnd ?_
    clear hF18 hF19 hF20 hF21 hF22 hF23 hF24 hF25 hF26 hF27 hF28 hM2 hM3 hM4
    refine nx ?_
    refine wp_seq ?_
    refine wp_region_lit ?_
    refine sq (v := (.pointer (some ⟨g0, 1, none⟩))) hF29 (wantedS rfl) (run_fldA (m := 1) (s := 1) rfl (hF29.ev 3 rfl) Tryd.underlying26 rfl rfl (by kernel_rfl) (by decide)) rfl (by decide) fun a30 hF30 => ?_
    refine sq (v := (.int .u64 (c.n : Int))) hF30 (wantedS rfl) (run_ldF rfl (hF30.ev 40 rfl) (hM5.at 2 rfl) rfl (by kernel_rfl)) rfl (by decide) fun a31 hF31 => ?_
    refine sq (v := (.pointer (some ⟨g1, 1, none⟩))) hF31 (wantedS rfl) (run_fldA (m := 1) (s := 1) rfl (hF31.ev 4 rfl) Tryd.underlying26 rfl rfl (by kernel_rfl) (by decide)) rfl (by decide) fun a32 hF32 => ?_
    refine sqSetN (j := 1) (u := c.n) (c2 := o2) hF32 hM5 rfl rfl rfl (hF32.ev 42 rfl) (hF32.ev 41 rfl) rfl ho2 fun a33 w6 hgr6 hF33 hM6 => ?_
    refine sqEnd ?_
    clear hF29 hF30 hF31 hF32 hM5
    refine nx ?_
    refine wp_seq ?_
    refine wp_region_lit ?_
    refine sq (v := (.agg (chA o2))) hF33 (wantedS rfl) (run_ldB rfl (hF33.ev 4 rfl) (hM6.at 1 rfl) Tryd.underlying26 rfl szCh (chA_size hLo2)) rfl (by decide) fun a34 hF34 => ?_
    refine sq (v := (.string ⟨fr.toArray⟩)) hF34 (wantedS rfl) (run_mv rfl (hF34.ev 8 rfl)) rfl (by decide) fun a35 hF35 => ?_
    refine sqC (v := (.tuple #[(.agg (chA ((takeS o2 fr).1))), (.string ⟨((takeS o2 fr).2.1).toArray⟩), (.int .i64 ((takeS o2 fr).2.2))])) hF35 hM6 (wantedS rfl) (run_call rfl Tryd.func19 (by kernel_rfl) rfl (mapE2 (hF35.ev 44 rfl) (hF35.ev 45 rfl))) rfl (by decide) (rstake_any o2 fr w6 hLo2 (by first | omega | decide | (simp; done) | (simp; omega)) (by first | omega | decide | (simp; done) | (simp; omega)) (by first | omega | decide | (simp; done) | (simp; omega))) fun a36 w7 hb7 hF36 hM7 => ?_
    refine sq (v := (.tuple #[(.agg (chA ((takeS o2 fr).1))), (.string ⟨((takeS o2 fr).2.1).toArray⟩), (.int .i64 ((takeS o2 fr).2.2))])) hF36 (wantedS rfl) (run_mv rfl (hF36.ev 46 rfl)) rfl (by decide) fun a37 hF37 => ?_
    refine sq (v := (.agg (chA ((takeS o2 fr).1)))) hF37 (wantedS rfl) (run_ext rfl (hF37.ev 43 rfl) rfl) rfl (by decide) fun a38 hF38 => ?_
    refine sq (v := (.string ⟨((takeS o2 fr).2.1).toArray⟩)) hF38 (wantedS rfl) (run_ext rfl (hF38.ev 43 rfl) rfl) rfl (by decide) fun a39 hF39 => ?_
    refine sq (v := (.int .i64 ((takeS o2 fr).2.2))) hF39 (wantedS rfl) (run_ext rfl (hF39.ev 43 rfl) rfl) rfl (by decide) fun a40 hF40 => ?_
    refine sqNew (cs := (chA noCh)) (t := 26) hF40 hM7 (wantedS rfl) (run_alloc rfl (by kernel_rfl)) rfl (by decide) fun g3 a41 w8 hgg3 hb8 hF41 hM8 => ?_
    refine sqStore (i := 0) hF41 hM8 rfl rfl rfl (hF41.ev 10 rfl) (hF41.ev 47 rfl) rfl szCh (chA_size (takeS_k _ _)) (chA_size noCh_len) (chA_one _) fun a42 w9 hF42 hM9 => ?_
    refine sq (v := (.string ⟨((takeS o2 fr).2.1).toArray⟩)) hF42 (wantedS rfl) (run_as rfl (hF42.ev 48 rfl)) rfl (by decide) fun a43 hF43 => ?_
    refine sq (v := (.int .i64 ((takeS o2 fr).2.2))) hF43 (wantedS rfl) (run_as rfl (hF43.ev 49 rfl)) rfl (by decide) fun a44 hF44 => ?_
    refine sqEnd ?_
    clear hF33 hF34 hF35 hF36 hF37 hF38 hF39 hF40 hF41 hF42 hF43 hM6 hM7 hM8
    refine nx ?_
    refine wp_seq ?_
    refine wp_seq ?_
    refine wp_region_lit ?_
    refine sq (v := (.int .i64 0)) hF44 (wantedS rfl) (run_mv rfl (hF44.ev 9 rfl)) rfl (by decide) fun a45 hF45 => ?_
    refine sq (v := (.bool false)) hF45 (wantedS rfl) (run_nei rfl (hF45.ev 50 rfl) rfl (bne_self_eq_false _)) rfl (by decide) fun a46 hF46 => ?_
    refine sq (v := (.bool false)) hF46 (wantedS rfl) (run_mv rfl (hF46.ev 51 rfl)) rfl (by decide) fun a47 hF47 => ?_
    refine sq (v := (.int .i64 ((takeS o2 fr).2.2))) hF47 (wantedG hF47 rfl rfl rfl rfl rfl) (run_mv rfl (hF47.ev 12 rfl)) rfl (by decide) fun a48 hF48 => ?_
    refine sq (v := (.bool true)) hF48 (wantedG hF48 rfl rfl rfl rfl rfl) (run_eqi rfl (hF48.ev 53 rfl) rfl (beq_iff_eq.2 hok)) rfl (by decide) fun a49 hF49 => ?_
    refine sq (v := (.bool true)) hF49 (wantedS rfl) (run_pick rfl (hF49.ev 52 rfl) rfl (hF49.ev 54 rfl)) rfl (by decide) fun a50 hF50 => ?_
    refine sqEnd ?_
    clear hF44 hF45 hF46 hF47 hF48 hF49
    refine nx ?_
    refine wp_cond_true (hF50.ev 55 rfl) ?_
    refine wp_seq ?_
    refine wp_region_lit ?_
    refine sqC (v := (.bool true)) hF50 hM9 (wantedS rfl) (run_call rfl Tryd.func11 (by kernel_rfl) rfl (mapE0 )) rfl (by decide) (sfix_any w9 (HG.below hM9.below)) fun a51 w10 hb10 hF51 hM10 => ?_
    refine sq (v := (.bool true)) hF51 (wantedS rfl) (run_as rfl (hF51.ev 56 rfl)) rfl (by decide) fun a52 hF52 => ?_
    refine sqEnd ?_
    clear hF50 hF51 hM9
    refine nx ?_
    refine wp_ret ?_
    refine nxRet ?_
    exact ret1 hF52 rfl rfl ⟨rfl, hM10.below⟩
  by_cases hmm : o.m = c.m
  · have hT : takeS o2 (frameS c d) = (noCh, [], 5) := take_bent _ _ _ (by rw [hm2, hmm]) (by omega) (by omega) hlt hn2 hok
    have hne : (!(o2.m == c.m)) = false := by rw [hm2, hmm, beq_self_eq_true]; rfl
    generalize hfr : frameS c d = fr at hS1 hfl hT
    refine walk_enter Tryd.func6 rfl rfl rfl fun a0 hF0 => ?_
    have hM0 := Mem.new w
    refine wp_seq ?_
    refine wp_region_lit ?_
    refine sqNew (cs := (chA c)) (t := 26) hF0 hM0 (wantedS rfl) (run_box rfl (hF0.ev 0 rfl)) rfl (by decide) fun g0 a1 w1 hgg0 hb1 hF1 hM1 => ?_
    refine sqNew (cs := (chA o)) (t := 26) hF1 hM1 (wantedS rfl) (run_box rfl (hF1.ev 1 rfl)) rfl (by decide) fun g1 a2 w2 hgg1 hb2 hF2 hM2 => ?_
    refine sq (v := (.bool false)) hF2 (wantedS rfl) (run_as rfl rfl) rfl (by decide) fun a3 hF3 => ?_
    refine sqEnd ?_
    clear hF0 hF1 hF2 hM0 hM1
    refine nx ?_
    refine wp_seq ?_
    refine wp_seq ?_
    refine wp_region_lit ?_
    refine sq (v := (.pointer (some ⟨g0, 0, none⟩))) hF3 (wantedS rfl) (run_fldA (m := 1) (s := 0) rfl (hF3.ev 3 rfl) Tryd.underlying26 rfl rfl (by kernel_rfl) (by decide)) rfl (by decide) fun a4 hF4 => ?_
    refine sq (v := (.string ⟨c.m.toArray⟩)) hF4 (wantedS rfl) (run_ldF rfl (hF4.ev 17 rfl) (hM2.at 1 rfl) rfl (by kernel_rfl)) rfl (by decide) fun a5 hF5 => ?_
    refine sq (v := (.int .i64 (c.m.length : Int))) hF5 (wantedS rfl) (run_len rfl (hF5.ev 18 rfl) rfl Tryd.underlying9) rfl (by decide) fun a6 hF6 => ?_
    refine sq (v := (.bool false)) hF6 (wantedS rfl) (run_gtr rfl (hF6.ev 19 rfl) rfl (decide_eq_false (by omega))) rfl (by decide) fun a7 hF7 => ?_
    refine sq (v := (.bool false)) hF7 (wantedS rfl) (run_mv rfl (hF7.ev 20 rfl)) rfl (by decide) fun a8 hF8 => ?_
    refine sq (v := (.pointer (some ⟨g1, 0, none⟩))) hF8 (wantedG hF8 rfl rfl rfl rfl rfl) (run_fldA (m := 1) (s := 0) rfl (hF8.ev 4 rfl) Tryd.underlying26 rfl rfl (by kernel_rfl) (by decide)) rfl (by decide) fun a9 hF9 => ?_
    refine sq (v := (.string ⟨o.m.toArray⟩)) hF9 (wantedG hF9 rfl rfl rfl rfl rfl) (run_ldF rfl (hF9.ev 22 rfl) (hM2.at 0 rfl) rfl (by kernel_rfl)) rfl (by decide) fun a10 hF10 => ?_
    refine sq (v := (.int .i64 (o.m.length : Int))) hF10 (wantedG hF10 rfl rfl rfl rfl rfl) (run_len rfl (hF10.ev 23 rfl) rfl Tryd.underlying9) rfl (by decide) fun a11 hF11 => ?_
    refine sq (v := (.bool false)) hF11 (wantedG hF11 rfl rfl rfl rfl rfl) (run_gtr rfl (hF11.ev 24 rfl) rfl (decide_eq_false (by omega))) rfl (by decide) fun a12 hF12 => ?_
    refine sq (v := (.bool false)) hF12 (wantedS rfl) (run_pick rfl (hF12.ev 21 rfl) rfl (hF12.ev 25 rfl)) rfl (by decide) fun a13 hF13 => ?_
    refine sq (v := (.bool false)) hF13 (wantedS rfl) (run_mv rfl (hF13.ev 26 rfl)) rfl (by decide) fun a14 hF14 => ?_
    refine sq (v := (.string ⟨d.toArray⟩)) hF14 (wantedG hF14 rfl rfl rfl rfl rfl) (run_mv rfl (hF14.ev 2 rfl)) rfl (by decide) fun a15 hF15 => ?_
    refine sq (v := (.int .i64 (d.length : Int))) hF15 (wantedG hF15 rfl rfl rfl rfl rfl) (run_len rfl (hF15.ev 28 rfl) rfl Tryd.underlying9) rfl (by decide) fun a16 hF16 => ?_
    refine sq (v := (.bool false)) hF16 (wantedG hF16 rfl rfl rfl rfl rfl) (run_gtr rfl (hF16.ev 29 rfl) rfl (decide_eq_false (by omega))) rfl (by decide) fun a17 hF17 => ?_
    refine sq (v := (.bool false)) hF17 (wantedS rfl) (run_pick rfl (hF17.ev 27 rfl) rfl (hF17.ev 30 rfl)) rfl (by decide) fun a18 hF18 => ?_
    refine sqEnd ?_
    clear hF3 hF4 hF5 hF6 hF7 hF8 hF9 hF10 hF11 hF12 hF13 hF14 hF15 hF16 hF17
    refine nx ?_
    refine wp_cond_false (hF18.ev 31 rfl) ?_
    refine wp_skip ?_
    refine nx ?_
    refine wp_seq ?_
    refine wp_region_lit ?_
    refine sq (v := (.agg (chA c))) hF18 (wantedS rfl) (run_ldB rfl (hF18.ev 3 rfl) (hM2.at 1 rfl) Tryd.underlying26 rfl szCh (chA_size hLc)) rfl (by decide) fun a19 hF19 => ?_
    refine sq (v := (.string ⟨d.toArray⟩)) hF19 (wantedS rfl) (run_mv rfl (hF19.ev 2 rfl)) rfl (by decide) fun a20 hF20 => ?_
    refine sqC (v := (.tuple #[(.agg (chA (goS c))), (.string ⟨fr.toArray⟩), (.int .i64 0)])) hF20 hM2 (wantedS rfl) (run_call rfl Tryd.func12 (by kernel_rfl) rfl (mapE2 (hF20.ev 34 rfl) (hF20.ev 35 rfl))) rfl (by decide) (send_eq hS1 w2 (HG.below hM2.below) hLc (by first | omega | decide | (simp; done) | (simp; omega)) (by first | omega | decide | (simp; done) | (simp; omega))) fun a21 w3 hb3 hF21 hM3 => ?_
    refine sq (v := (.tuple #[(.agg (chA (goS c))), (.string ⟨fr.toArray⟩), (.int .i64 0)])) hF21 (wantedS rfl) (run_mv rfl (hF21.ev 36 rfl)) rfl (by decide) fun a22 hF22 => ?_
    refine sq (v := (.agg (chA (goS c)))) hF22 (wantedS rfl) (run_ext rfl (hF22.ev 33 rfl) rfl) rfl (by decide) fun a23 hF23 => ?_
    refine sq (v := (.string ⟨fr.toArray⟩)) hF23 (wantedS rfl) (run_ext rfl (hF23.ev 33 rfl) rfl) rfl (by decide) fun a24 hF24 => ?_
    refine sq (v := (.int .i64 0)) hF24 (wantedS rfl) (run_ext rfl (hF24.ev 33 rfl) rfl) rfl (by decide) fun a25 hF25 => ?_
    refine sqNew (cs := (chA noCh)) (t := 26) hF25 hM3 (wantedS rfl) (run_alloc rfl (by kernel_rfl)) rfl (by decide) fun g2 a26 w4 hgg2 hb4 hF26 hM4 => ?_
    refine sqStore (i := 0) hF26 hM4 rfl rfl rfl (hF26.ev 7 rfl) (hF26.ev 37 rfl) rfl szCh (chA_size (goS_len _)) (chA_size noCh_len) (chA_one _) fun a27 w5 hF27 hM5 => ?_
    refine sq (v := (.string ⟨fr.toArray⟩)) hF27 (wantedS rfl) (run_as rfl (hF27.ev 38 rfl)) rfl (by decide) fun a28 hF28 => ?_
    refine sq (v := (.int .i64 0)) hF28 (wantedS rfl) (run_as rfl (hF28.ev 39 rfl)) rfl (by decide) fun a29 hF29 => ?_
    refine sqEnd ?_
    clear hF18 hF19 hF20 hF21 hF22 hF23 hF24 hF25 hF26 hF27 hF28 hM2 hM3 hM4
    refine nx ?_
    refine wp_seq ?_
    refine wp_region_lit ?_
    refine sq (v := (.pointer (some ⟨g0, 1, none⟩))) hF29 (wantedS rfl) (run_fldA (m := 1) (s := 1) rfl (hF29.ev 3 rfl) Tryd.underlying26 rfl rfl (by kernel_rfl) (by decide)) rfl (by decide) fun a30 hF30 => ?_
    refine sq (v := (.int .u64 (c.n : Int))) hF30 (wantedS rfl) (run_ldF rfl (hF30.ev 40 rfl) (hM5.at 2 rfl) rfl (by kernel_rfl)) rfl (by decide) fun a31 hF31 => ?_
    refine sq (v := (.pointer (some ⟨g1, 1, none⟩))) hF31 (wantedS rfl) (run_fldA (m := 1) (s := 1) rfl (hF31.ev 4 rfl) Tryd.underlying26 rfl rfl (by kernel_rfl) (by decide)) rfl (by decide) fun a32 hF32 => ?_
    refine sqSetN (j := 1) (u := c.n) (c2 := o2) hF32 hM5 rfl rfl rfl (hF32.ev 42 rfl) (hF32.ev 41 rfl) rfl ho2 fun a33 w6 hgr6 hF33 hM6 => ?_
    refine sqEnd ?_
    clear hF29 hF30 hF31 hF32 hM5
    refine nx ?_
    refine wp_seq ?_
    refine wp_region_lit ?_
    refine sq (v := (.agg (chA o2))) hF33 (wantedS rfl) (run_ldB rfl (hF33.ev 4 rfl) (hM6.at 1 rfl) Tryd.underlying26 rfl szCh (chA_size hLo2)) rfl (by decide) fun a34 hF34 => ?_
    refine sq (v := (.string ⟨fr.toArray⟩)) hF34 (wantedS rfl) (run_mv rfl (hF34.ev 8 rfl)) rfl (by decide) fun a35 hF35 => ?_
    refine sqC (v := (.tuple #[(.agg (chA noCh)), (.string ⟨List.toArray []⟩), (.int .i64 5)])) hF35 hM6 (wantedS rfl) (run_call rfl Tryd.func19 (by kernel_rfl) rfl (mapE2 (hF35.ev 44 rfl) (hF35.ev 45 rfl))) rfl (by decide) (rtake_eq hT w6 hLo2 (by first | omega | decide | (simp; done) | (simp; omega)) (by first | omega | decide | (simp; done) | (simp; omega)) (by first | omega | decide | (simp; done) | (simp; omega))) fun a36 w7 hb7 hF36 hM7 => ?_
    refine sq (v := (.tuple #[(.agg (chA noCh)), (.string ⟨List.toArray []⟩), (.int .i64 5)])) hF36 (wantedS rfl) (run_mv rfl (hF36.ev 46 rfl)) rfl (by decide) fun a37 hF37 => ?_
    refine sq (v := (.agg (chA noCh))) hF37 (wantedS rfl) (run_ext rfl (hF37.ev 43 rfl) rfl) rfl (by decide) fun a38 hF38 => ?_
    refine sq (v := (.string ⟨List.toArray []⟩)) hF38 (wantedS rfl) (run_ext rfl (hF38.ev 43 rfl) rfl) rfl (by decide) fun a39 hF39 => ?_
    refine sq (v := (.int .i64 5)) hF39 (wantedS rfl) (run_ext rfl (hF39.ev 43 rfl) rfl) rfl (by decide) fun a40 hF40 => ?_
    refine sqNew (cs := (chA noCh)) (t := 26) hF40 hM7 (wantedS rfl) (run_alloc rfl (by kernel_rfl)) rfl (by decide) fun g3 a41 w8 hgg3 hb8 hF41 hM8 => ?_
    refine sqStore (i := 0) hF41 hM8 rfl rfl rfl (hF41.ev 10 rfl) (hF41.ev 47 rfl) rfl szCh (chA_size noCh_len) (chA_size noCh_len) (chA_one _) fun a42 w9 hF42 hM9 => ?_
    refine sq (v := (.string ⟨List.toArray []⟩)) hF42 (wantedS rfl) (run_as rfl (hF42.ev 48 rfl)) rfl (by decide) fun a43 hF43 => ?_
    refine sq (v := (.int .i64 5)) hF43 (wantedS rfl) (run_as rfl (hF43.ev 49 rfl)) rfl (by decide) fun a44 hF44 => ?_
    refine sqEnd ?_
    clear hF33 hF34 hF35 hF36 hF37 hF38 hF39 hF40 hF41 hF42 hF43 hM6 hM7 hM8
    refine nx ?_
    refine wp_seq ?_
    refine wp_seq ?_
    refine wp_region_lit ?_
    refine sq (v := (.int .i64 0)) hF44 (wantedS rfl) (run_mv rfl (hF44.ev 9 rfl)) rfl (by decide) fun a45 hF45 => ?_
    refine sq (v := (.bool false)) hF45 (wantedS rfl) (run_nei rfl (hF45.ev 50 rfl) rfl (bne_self_eq_false _)) rfl (by decide) fun a46 hF46 => ?_
    refine sq (v := (.bool false)) hF46 (wantedS rfl) (run_mv rfl (hF46.ev 51 rfl)) rfl (by decide) fun a47 hF47 => ?_
    refine sq (v := (.int .i64 5)) hF47 (wantedG hF47 rfl rfl rfl rfl rfl) (run_mv rfl (hF47.ev 12 rfl)) rfl (by decide) fun a48 hF48 => ?_
    refine sq (v := (.bool false)) hF48 (wantedG hF48 rfl rfl rfl rfl rfl) (run_eqi rfl (hF48.ev 53 rfl) rfl rfl) rfl (by decide) fun a49 hF49 => ?_
    refine sq (v := (.bool false)) hF49 (wantedS rfl) (run_pick rfl (hF49.ev 52 rfl) rfl (hF49.ev 54 rfl)) rfl (by decide) fun a50 hF50 => ?_
    refine sqEnd ?_
    clear hF44 hF45 hF46 hF47 hF48 hF49
    refine nx ?_
    refine wp_cond_false (hF50.ev 55 rfl) ?_
    refine wp_skip ?_
    refine nx ?_
    refine wp_seq ?_
    refine wp_region_lit ?_
    refine sq (v := (.agg (chA o2))) hF50 (wantedS rfl) (run_ldB rfl (hF50.ev 4 rfl) (hM9.at 2 rfl) Tryd.underlying26 rfl szCh (chA_size hLo2)) rfl (by decide) fun a51 hF51 => ?_
    refine sq (v := (.string ⟨fr.toArray⟩)) hF51 (wantedS rfl) (run_mv rfl (hF51.ev 8 rfl)) rfl (by decide) fun a52 hF52 => ?_
    refine sqC (v := (.tuple #[(.agg (chA noCh)), (.string ⟨List.toArray []⟩), (.int .i64 5)])) hF52 hM9 (wantedS rfl) (run_call rfl Tryd.func13 (by kernel_rfl) rfl (mapE2 (hF52.ev 58 rfl) (hF52.ev 59 rfl))) rfl (by decide) (take_eq hT w9 (HG.below hM9.below) hLo2 (by first | omega | decide | (simp; done) | (simp; omega)) (by first | omega | decide | (simp; done) | (simp; omega)) (by first | omega | decide | (simp; done) | (simp; omega))) fun a53 w10 hb10 hF53 hM10 => ?_
    refine sq (v := (.tuple #[(.agg (chA noCh)), (.string ⟨List.toArray []⟩), (.int .i64 5)])) hF53 (wantedS rfl) (run_mv rfl (hF53.ev 60 rfl)) rfl (by decide) fun a54 hF54 => ?_
    refine sq (v := (.agg (chA noCh))) hF54 (wantedS rfl) (run_ext rfl (hF54.ev 57 rfl) rfl) rfl (by decide) fun a55 hF55 => ?_
    refine sq (v := (.string ⟨List.toArray []⟩)) hF55 (wantedS rfl) (run_ext rfl (hF55.ev 57 rfl) rfl) rfl (by decide) fun a56 hF56 => ?_
    refine sq (v := (.int .i64 5)) hF56 (wantedS rfl) (run_ext rfl (hF56.ev 57 rfl) rfl) rfl (by decide) fun a57 hF57 => ?_
    refine sqNew (cs := (chA noCh)) (t := 26) hF57 hM10 (wantedS rfl) (run_alloc rfl (by kernel_rfl)) rfl (by decide) fun g4 a58 w11 hgg4 hb11 hF58 hM11 => ?_
    refine sqStore (i := 0) hF58 hM11 rfl rfl rfl (hF58.ev 13 rfl) (hF58.ev 61 rfl) rfl szCh (chA_size noCh_len) (chA_size noCh_len) (chA_one _) fun a59 w12 hF59 hM12 => ?_
    refine sq (v := (.string ⟨List.toArray []⟩)) hF59 (wantedS rfl) (run_as rfl (hF59.ev 62 rfl)) rfl (by decide) fun a60 hF60 => ?_
    refine sq (v := (.int .i64 5)) hF60 (wantedS rfl) (run_as rfl (hF60.ev 63 rfl)) rfl (by decide) fun a61 hF61 => ?_
    refine sqEnd ?_
    clear hF50 hF51 hF52 hF53 hF54 hF55 hF56 hF57 hF58 hF59 hF60 hM9 hM10 hM11
    refine nx ?_
    refine wp_seq ?_
    refine wp_region_lit ?_
    refine sq (v := (.int .i64 5)) hF61 (wantedS rfl) (run_as rfl rfl) rfl (by decide) fun a62 hF62 => ?_
    refine sqEnd ?_
    clear hF61
    refine nx ?_
    refine wp_seq ?_
    refine wp_seq ?_
    refine wp_region_lit ?_
    refine sq (v := (.pointer (some ⟨g1, 0, none⟩))) hF62 (wantedS rfl) (run_fldA (m := 1) (s := 0) rfl (hF62.ev 4 rfl) Tryd.underlying26 rfl rfl (by kernel_rfl) (by decide)) rfl (by decide) fun a63 hF63 => ?_
    refine sq (v := (.string ⟨o2.m.toArray⟩)) hF63 (wantedS rfl) (run_ldF rfl (hF63.ev 64 rfl) (hM12.at 3 rfl) rfl (by kernel_rfl)) rfl (by decide) fun a64 hF64 => ?_
    refine sq (v := (.pointer (some ⟨g0, 0, none⟩))) hF64 (wantedS rfl) (run_fldA (m := 1) (s := 0) rfl (hF64.ev 3 rfl) Tryd.underlying26 rfl rfl (by kernel_rfl) (by decide)) rfl (by decide) fun a65 hF65 => ?_
    refine sq (v := (.string ⟨c.m.toArray⟩)) hF65 (wantedS rfl) (run_ldF rfl (hF65.ev 66 rfl) (hM12.at 4 rfl) rfl (by kernel_rfl)) rfl (by decide) fun a66 hF66 => ?_
    refine sq (v := (.bool false)) hF66 (wantedS rfl) (run_nes rfl (hF66.ev 65 rfl) (hF66.ev 67 rfl) hne) rfl (by decide) fun a67 hF67 => ?_
    refine sqEnd ?_
    clear hF62 hF63 hF64 hF65 hF66
    refine nx ?_
    refine wp_cond_false (hF67.ev 68 rfl) ?_
    refine wp_skip ?_
    refine nx ?_
    refine wp_seq ?_
    refine wp_region_lit ?_
    refine sqC (v := (.bool true)) hF67 hM12 (wantedS rfl) (run_call rfl Tryd.func11 (by kernel_rfl) rfl (mapE0 )) rfl (by decide) (sfix_any w12 (HG.below hM12.below)) fun a68 w13 hb13 hF68 hM13 => ?_
    refine sq (v := (.bool true)) hF68 (wantedS rfl) (run_mv rfl (hF68.ev 69 rfl)) rfl (by decide) fun a69 hF69 => ?_
    refine sq (v := (.int .i64 5)) hF69 (wantedG hF69 rfl rfl rfl rfl rfl) (run_mv rfl (hF69.ev 15 rfl)) rfl (by decide) fun a70 hF70 => ?_
    refine sq (v := (.int .i64 5)) hF70 (wantedG hF70 rfl rfl rfl rfl rfl) (run_mv rfl (hF70.ev 16 rfl)) rfl (by decide) fun a71 hF71 => ?_
    refine sq (v := (.bool true)) hF71 (wantedG hF71 rfl rfl rfl rfl rfl) (run_eqi rfl (hF71.ev 71 rfl) (hF71.ev 72 rfl) (beq_self_eq_true _)) rfl (by decide) fun a72 hF72 => ?_
    refine sq (v := (.bool true)) hF72 (wantedS rfl) (run_pick rfl (hF72.ev 70 rfl) (hF72.ev 73 rfl) rfl) rfl (by decide) fun a73 hF73 => ?_
    refine sq (v := (.bool true)) hF73 (wantedS rfl) (run_mv rfl (hF73.ev 74 rfl)) rfl (by decide) fun a74 hF74 => ?_
    refine sq (v := (.string ⟨List.toArray []⟩)) hF74 (wantedG hF74 rfl rfl rfl rfl rfl) (run_mv rfl (hF74.ev 14 rfl)) rfl (by decide) fun a75 hF75 => ?_
    refine sq (v := (.bool true)) hF75 (wantedG hF75 rfl rfl rfl rfl rfl) (run_eqs rfl (hF75.ev 76 rfl) rfl (beq_self_eq_true _)) rfl (by decide) fun a76 hF76 => ?_
    refine sq (v := (.bool true)) hF76 (wantedS rfl) (run_pick rfl (hF76.ev 75 rfl) (hF76.ev 77 rfl) rfl) rfl (by decide) fun a77 hF77 => ?_
    refine sq (v := (.bool true)) hF77 (wantedS rfl) (run_mv rfl (hF77.ev 78 rfl)) rfl (by decide) fun a78 hF78 => ?_
    refine sq (v := (.agg (chA noCh))) hF78 (wantedG hF78 rfl rfl rfl rfl rfl) (run_ldB rfl (hF78.ev 13 rfl) (hM13.at 0 rfl) Tryd.underlying26 rfl szCh (chA_size noCh_len)) rfl (by decide) fun a79 hF79 => ?_
    refine sq (v := (.agg (chA noCh))) hF79 (wantedG hF79 rfl rfl rfl rfl rfl) (run_blt (vs := #[]) (cs := chA noCh) rfl (by simp) built_ch0) rfl (by decide) fun a80 hF80 => ?_
    refine sq (v := (.bool true)) hF80 (wantedG hF80 rfl rfl rfl rfl rfl) (run_eqCh noCh_len rfl (hF80.ev 80 rfl) (hF80.ev 81 rfl)) rfl (by decide) fun a81 hF81 => ?_
    refine sq (v := (.bool true)) hF81 (wantedS rfl) (run_pick rfl (hF81.ev 79 rfl) (hF81.ev 82 rfl) rfl) rfl (by decide) fun a82 hF82 => ?_
    refine sq (v := (.bool true)) hF82 (wantedS rfl) (run_as rfl (hF82.ev 83 rfl)) rfl (by decide) fun a83 hF83 => ?_
    refine sqEnd ?_
    clear hF67 hF68 hF69 hF70 hF71 hF72 hF73 hF74 hF75 hF76 hF77 hF78 hF79 hF80 hF81 hF82 hM12
    refine nx ?_
    refine wp_ret ?_
    exact ret1 hF83 rfl rfl ⟨rfl, hM13.below⟩
  · have hT : takeS o2 (frameS c d) = (noCh, [], 7) := take_name _ _ _ (by rw [hm2]; exact hmm) (by omega) (by omega)
    have hne : (!(o2.m == c.m)) = true := by rw [hm2, beq_eq_false_iff_ne.2 hmm]; rfl
    generalize hfr : frameS c d = fr at hS1 hfl hT
    refine walk_enter Tryd.func6 rfl rfl rfl fun a0 hF0 => ?_
    have hM0 := Mem.new w
    refine wp_seq ?_
    refine wp_region_lit ?_
    refine sqNew (cs := (chA c)) (t := 26) hF0 hM0 (wantedS rfl) (run_box rfl (hF0.ev 0 rfl)) rfl (by decide) fun g0 a1 w1 hgg0 hb1 hF1 hM1 => ?_
    refine sqNew (cs := (chA o)) (t := 26) hF1 hM1 (wantedS rfl) (run_box rfl (hF1.ev 1 rfl)) rfl (by decide) fun g1 a2 w2 hgg1 hb2 hF2 hM2 => ?_
    refine sq (v := (.bool false)) hF2 (wantedS rfl) (run_as rfl rfl) rfl (by decide) fun a3 hF3 => ?_
    refine sqEnd ?_
    clear hF0 hF1 hF2 hM0 hM1
    refine nx ?_
    refine wp_seq ?_
    refine wp_seq ?_
    refine wp_region_lit ?_
    refine sq (v := (.pointer (some ⟨g0, 0, none⟩))) hF3 (wantedS rfl) (run_fldA (m := 1) (s := 0) rfl (hF3.ev 3 rfl) Tryd.underlying26 rfl rfl (by kernel_rfl) (by decide)) rfl (by decide) fun a4 hF4 => ?_
    refine sq (v := (.string ⟨c.m.toArray⟩)) hF4 (wantedS rfl) (run_ldF rfl (hF4.ev 17 rfl) (hM2.at 1 rfl) rfl (by kernel_rfl)) rfl (by decide) fun a5 hF5 => ?_
    refine sq (v := (.int .i64 (c.m.length : Int))) hF5 (wantedS rfl) (run_len rfl (hF5.ev 18 rfl) rfl Tryd.underlying9) rfl (by decide) fun a6 hF6 => ?_
    refine sq (v := (.bool false)) hF6 (wantedS rfl) (run_gtr rfl (hF6.ev 19 rfl) rfl (decide_eq_false (by omega))) rfl (by decide) fun a7 hF7 => ?_
    refine sq (v := (.bool false)) hF7 (wantedS rfl) (run_mv rfl (hF7.ev 20 rfl)) rfl (by decide) fun a8 hF8 => ?_
    refine sq (v := (.pointer (some ⟨g1, 0, none⟩))) hF8 (wantedG hF8 rfl rfl rfl rfl rfl) (run_fldA (m := 1) (s := 0) rfl (hF8.ev 4 rfl) Tryd.underlying26 rfl rfl (by kernel_rfl) (by decide)) rfl (by decide) fun a9 hF9 => ?_
    refine sq (v := (.string ⟨o.m.toArray⟩)) hF9 (wantedG hF9 rfl rfl rfl rfl rfl) (run_ldF rfl (hF9.ev 22 rfl) (hM2.at 0 rfl) rfl (by kernel_rfl)) rfl (by decide) fun a10 hF10 => ?_
    refine sq (v := (.int .i64 (o.m.length : Int))) hF10 (wantedG hF10 rfl rfl rfl rfl rfl) (run_len rfl (hF10.ev 23 rfl) rfl Tryd.underlying9) rfl (by decide) fun a11 hF11 => ?_
    refine sq (v := (.bool false)) hF11 (wantedG hF11 rfl rfl rfl rfl rfl) (run_gtr rfl (hF11.ev 24 rfl) rfl (decide_eq_false (by omega))) rfl (by decide) fun a12 hF12 => ?_
    refine sq (v := (.bool false)) hF12 (wantedS rfl) (run_pick rfl (hF12.ev 21 rfl) rfl (hF12.ev 25 rfl)) rfl (by decide) fun a13 hF13 => ?_
    refine sq (v := (.bool false)) hF13 (wantedS rfl) (run_mv rfl (hF13.ev 26 rfl)) rfl (by decide) fun a14 hF14 => ?_
    refine sq (v := (.string ⟨d.toArray⟩)) hF14 (wantedG hF14 rfl rfl rfl rfl rfl) (run_mv rfl (hF14.ev 2 rfl)) rfl (by decide) fun a15 hF15 => ?_
    refine sq (v := (.int .i64 (d.length : Int))) hF15 (wantedG hF15 rfl rfl rfl rfl rfl) (run_len rfl (hF15.ev 28 rfl) rfl Tryd.underlying9) rfl (by decide) fun a16 hF16 => ?_
    refine sq (v := (.bool false)) hF16 (wantedG hF16 rfl rfl rfl rfl rfl) (run_gtr rfl (hF16.ev 29 rfl) rfl (decide_eq_false (by omega))) rfl (by decide) fun a17 hF17 => ?_
    refine sq (v := (.bool false)) hF17 (wantedS rfl) (run_pick rfl (hF17.ev 27 rfl) rfl (hF17.ev 30 rfl)) rfl (by decide) fun a18 hF18 => ?_
    refine sqEnd ?_
    clear hF3 hF4 hF5 hF6 hF7 hF8 hF9 hF10 hF11 hF12 hF13 hF14 hF15 hF16 hF17
    refine nx ?_
    refine wp_cond_false (hF18.ev 31 rfl) ?_
    refine wp_skip ?_
    refine nx ?_
    refine wp_seq ?_
    refine wp_region_lit ?_
    refine sq (v := (.agg (chA c))) hF18 (wantedS rfl) (run_ldB rfl (hF18.ev 3 rfl) (hM2.at 1 rfl) Tryd.underlying26 rfl szCh (chA_size hLc)) rfl (by decide) fun a19 hF19 => ?_
    refine sq (v := (.string ⟨d.toArray⟩)) hF19 (wantedS rfl) (run_mv rfl (hF19.ev 2 rfl)) rfl (by decide) fun a20 hF20 => ?_
    refine sqC (v := (.tuple #[(.agg (chA (goS c))), (.string ⟨fr.toArray⟩), (.int .i64 0)])) hF20 hM2 (wantedS rfl) (run_call rfl Tryd.func12 (by kernel_rfl) rfl (mapE2 (hF20.ev 34 rfl) (hF20.ev 35 rfl))) rfl (by decide) (send_eq hS1 w2 (HG.below hM2.below) hLc (by first | omega | decide | (simp; done) | (simp; omega)) (by first | omega | decide | (simp; done) | (simp; omega))) fun a21 w3 hb3 hF21 hM3 => ?_
    refine sq (v := (.tuple #[(.agg (chA (goS c))), (.string ⟨fr.toArray⟩), (.int .i64 0)])) hF21 (wantedS rfl) (run_mv rfl (hF21.ev 36 rfl)) rfl (by decide) fun a22 hF22 => ?_
    refine sq (v := (.agg (chA (goS c)))) hF22 (wantedS rfl) (run_ext rfl (hF22.ev 33 rfl) rfl) rfl (by decide) fun a23 hF23 => ?_
    refine sq (v := (.string ⟨fr.toArray⟩)) hF23 (wantedS rfl) (run_ext rfl (hF23.ev 33 rfl) rfl) rfl (by decide) fun a24 hF24 => ?_
    refine sq (v := (.int .i64 0)) hF24 (wantedS rfl) (run_ext rfl (hF24.ev 33 rfl) rfl) rfl (by decide) fun a25 hF25 => ?_
    refine sqNew (cs := (chA noCh)) (t := 26) hF25 hM3 (wantedS rfl) (run_alloc rfl (by kernel_rfl)) rfl (by decide) fun g2 a26 w4 hgg2 hb4 hF26 hM4 => ?_
    refine sqStore (i := 0) hF26 hM4 rfl rfl rfl (hF26.ev 7 rfl) (hF26.ev 37 rfl) rfl szCh (chA_size (goS_len _)) (chA_size noCh_len) (chA_one _) fun a27 w5 hF27 hM5 => ?_
    refine sq (v := (.string ⟨fr.toArray⟩)) hF27 (wantedS rfl) (run_as rfl (hF27.ev 38 rfl)) rfl (by decide) fun a28 hF28 => ?_
    refine sq (v := (.int .i64 0)) hF28 (wantedS rfl) (run_as rfl (hF28.ev 39 rfl)) rfl (by decide) fun a29 hF29 => ?_
    refine sqEnd ?_
    clear hF18 hF19 hF20 hF21 hF22 hF23 hF24 hF25 hF26 hF27 hF28 hM2 hM3 hM4
    refine nx ?_
    refine wp_seq ?_
    refine wp_region_lit ?_
    refine sq (v := (.pointer (some ⟨g0, 1, none⟩))) hF29 (wantedS rfl) (run_fldA (m := 1) (s := 1) rfl (hF29.ev 3 rfl) Tryd.underlying26 rfl rfl (by kernel_rfl) (by decide)) rfl (by decide) fun a30 hF30 => ?_
    refine sq (v := (.int .u64 (c.n : Int))) hF30 (wantedS rfl) (run_ldF rfl (hF30.ev 40 rfl) (hM5.at 2 rfl) rfl (by kernel_rfl)) rfl (by decide) fun a31 hF31 => ?_
    refine sq (v := (.pointer (some ⟨g1, 1, none⟩))) hF31 (wantedS rfl) (run_fldA (m := 1) (s := 1) rfl (hF31.ev 4 rfl) Tryd.underlying26 rfl rfl (by kernel_rfl) (by decide)) rfl (by decide) fun a32 hF32 => ?_
    refine sqSetN (j := 1) (u := c.n) (c2 := o2) hF32 hM5 rfl rfl rfl (hF32.ev 42 rfl) (hF32.ev 41 rfl) rfl ho2 fun a33 w6 hgr6 hF33 hM6 => ?_
    refine sqEnd ?_
    clear hF29 hF30 hF31 hF32 hM5
    refine nx ?_
    refine wp_seq ?_
    refine wp_region_lit ?_
    refine sq (v := (.agg (chA o2))) hF33 (wantedS rfl) (run_ldB rfl (hF33.ev 4 rfl) (hM6.at 1 rfl) Tryd.underlying26 rfl szCh (chA_size hLo2)) rfl (by decide) fun a34 hF34 => ?_
    refine sq (v := (.string ⟨fr.toArray⟩)) hF34 (wantedS rfl) (run_mv rfl (hF34.ev 8 rfl)) rfl (by decide) fun a35 hF35 => ?_
    refine sqC (v := (.tuple #[(.agg (chA noCh)), (.string ⟨List.toArray []⟩), (.int .i64 7)])) hF35 hM6 (wantedS rfl) (run_call rfl Tryd.func19 (by kernel_rfl) rfl (mapE2 (hF35.ev 44 rfl) (hF35.ev 45 rfl))) rfl (by decide) (rtake_eq hT w6 hLo2 (by first | omega | decide | (simp; done) | (simp; omega)) (by first | omega | decide | (simp; done) | (simp; omega)) (by first | omega | decide | (simp; done) | (simp; omega))) fun a36 w7 hb7 hF36 hM7 => ?_
    refine sq (v := (.tuple #[(.agg (chA noCh)), (.string ⟨List.toArray []⟩), (.int .i64 7)])) hF36 (wantedS rfl) (run_mv rfl (hF36.ev 46 rfl)) rfl (by decide) fun a37 hF37 => ?_
    refine sq (v := (.agg (chA noCh))) hF37 (wantedS rfl) (run_ext rfl (hF37.ev 43 rfl) rfl) rfl (by decide) fun a38 hF38 => ?_
    refine sq (v := (.string ⟨List.toArray []⟩)) hF38 (wantedS rfl) (run_ext rfl (hF38.ev 43 rfl) rfl) rfl (by decide) fun a39 hF39 => ?_
    refine sq (v := (.int .i64 7)) hF39 (wantedS rfl) (run_ext rfl (hF39.ev 43 rfl) rfl) rfl (by decide) fun a40 hF40 => ?_
    refine sqNew (cs := (chA noCh)) (t := 26) hF40 hM7 (wantedS rfl) (run_alloc rfl (by kernel_rfl)) rfl (by decide) fun g3 a41 w8 hgg3 hb8 hF41 hM8 => ?_
    refine sqStore (i := 0) hF41 hM8 rfl rfl rfl (hF41.ev 10 rfl) (hF41.ev 47 rfl) rfl szCh (chA_size noCh_len) (chA_size noCh_len) (chA_one _) fun a42 w9 hF42 hM9 => ?_
    refine sq (v := (.string ⟨List.toArray []⟩)) hF42 (wantedS rfl) (run_as rfl (hF42.ev 48 rfl)) rfl (by decide) fun a43 hF43 => ?_
    refine sq (v := (.int .i64 7)) hF43 (wantedS rfl) (run_as rfl (hF43.ev 49 rfl)) rfl (by decide) fun a44 hF44 => ?_
    refine sqEnd ?_
    clear hF33 hF34 hF35 hF36 hF37 hF38 hF39 hF40 hF41 hF42 hF43 hM6 hM7 hM8
    refine nx ?_
    refine wp_seq ?_
    refine wp_seq ?_
    refine wp_region_lit ?_
    refine sq (v := (.int .i64 0)) hF44 (wantedS rfl) (run_mv rfl (hF44.ev 9 rfl)) rfl (by decide) fun a45 hF45 => ?_
    refine sq (v := (.bool false)) hF45 (wantedS rfl) (run_nei rfl (hF45.ev 50 rfl) rfl (bne_self_eq_false _)) rfl (by decide) fun a46 hF46 => ?_
    refine sq (v := (.bool false)) hF46 (wantedS rfl) (run_mv rfl (hF46.ev 51 rfl)) rfl (by decide) fun a47 hF47 => ?_
    refine sq (v := (.int .i64 7)) hF47 (wantedG hF47 rfl rfl rfl rfl rfl) (run_mv rfl (hF47.ev 12 rfl)) rfl (by decide) fun a48 hF48 => ?_
    refine sq (v := (.bool false)) hF48 (wantedG hF48 rfl rfl rfl rfl rfl) (run_eqi rfl (hF48.ev 53 rfl) rfl rfl) rfl (by decide) fun a49 hF49 => ?_
    refine sq (v := (.bool false)) hF49 (wantedS rfl) (run_pick rfl (hF49.ev 52 rfl) rfl (hF49.ev 54 rfl)) rfl (by decide) fun a50 hF50 => ?_
    refine sqEnd ?_
    clear hF44 hF45 hF46 hF47 hF48 hF49
    refine nx ?_
    refine wp_cond_false (hF50.ev 55 rfl) ?_
    refine wp_skip ?_
    refine nx ?_
    refine wp_seq ?_
    refine wp_region_lit ?_
    refine sq (v := (.agg (chA o2))) hF50 (wantedS rfl) (run_ldB rfl (hF50.ev 4 rfl) (hM9.at 2 rfl) Tryd.underlying26 rfl szCh (chA_size hLo2)) rfl (by decide) fun a51 hF51 => ?_
    refine sq (v := (.string ⟨fr.toArray⟩)) hF51 (wantedS rfl) (run_mv rfl (hF51.ev 8 rfl)) rfl (by decide) fun a52 hF52 => ?_
    refine sqC (v := (.tuple #[(.agg (chA noCh)), (.string ⟨List.toArray []⟩), (.int .i64 7)])) hF52 hM9 (wantedS rfl) (run_call rfl Tryd.func13 (by kernel_rfl) rfl (mapE2 (hF52.ev 58 rfl) (hF52.ev 59 rfl))) rfl (by decide) (take_eq hT w9 (HG.below hM9.below) hLo2 (by first | omega | decide | (simp; done) | (simp; omega)) (by first | omega | decide | (simp; done) | (simp; omega)) (by first | omega | decide | (simp; done) | (simp; omega))) fun a53 w10 hb10 hF53 hM10 => ?_
    refine sq (v := (.tuple #[(.agg (chA noCh)), (.string ⟨List.toArray []⟩), (.int .i64 7)])) hF53 (wantedS rfl) (run_mv rfl (hF53.ev 60 rfl)) rfl (by decide) fun a54 hF54 => ?_
    refine sq (v := (.agg (chA noCh))) hF54 (wantedS rfl) (run_ext rfl (hF54.ev 57 rfl) rfl) rfl (by decide) fun a55 hF55 => ?_
    refine sq (v := (.string ⟨List.toArray []⟩)) hF55 (wantedS rfl) (run_ext rfl (hF55.ev 57 rfl) rfl) rfl (by decide) fun a56 hF56 => ?_
    refine sq (v := (.int .i64 7)) hF56 (wantedS rfl) (run_ext rfl (hF56.ev 57 rfl) rfl) rfl (by decide) fun a57 hF57 => ?_
    refine sqNew (cs := (chA noCh)) (t := 26) hF57 hM10 (wantedS rfl) (run_alloc rfl (by kernel_rfl)) rfl (by decide) fun g4 a58 w11 hgg4 hb11 hF58 hM11 => ?_
    refine sqStore (i := 0) hF58 hM11 rfl rfl rfl (hF58.ev 13 rfl) (hF58.ev 61 rfl) rfl szCh (chA_size noCh_len) (chA_size noCh_len) (chA_one _) fun a59 w12 hF59 hM12 => ?_
    refine sq (v := (.string ⟨List.toArray []⟩)) hF59 (wantedS rfl) (run_as rfl (hF59.ev 62 rfl)) rfl (by decide) fun a60 hF60 => ?_
    refine sq (v := (.int .i64 7)) hF60 (wantedS rfl) (run_as rfl (hF60.ev 63 rfl)) rfl (by decide) fun a61 hF61 => ?_
    refine sqEnd ?_
    clear hF50 hF51 hF52 hF53 hF54 hF55 hF56 hF57 hF58 hF59 hF60 hM9 hM10 hM11
    refine nx ?_
    refine wp_seq ?_
    refine wp_region_lit ?_
    refine sq (v := (.int .i64 5)) hF61 (wantedS rfl) (run_as rfl rfl) rfl (by decide) fun a62 hF62 => ?_
    refine sqEnd ?_
    clear hF61
    refine nx ?_
    refine wp_seq ?_
    refine wp_seq ?_
    refine wp_region_lit ?_
    refine sq (v := (.pointer (some ⟨g1, 0, none⟩))) hF62 (wantedS rfl) (run_fldA (m := 1) (s := 0) rfl (hF62.ev 4 rfl) Tryd.underlying26 rfl rfl (by kernel_rfl) (by decide)) rfl (by decide) fun a63 hF63 => ?_
    refine sq (v := (.string ⟨o2.m.toArray⟩)) hF63 (wantedS rfl) (run_ldF rfl (hF63.ev 64 rfl) (hM12.at 3 rfl) rfl (by kernel_rfl)) rfl (by decide) fun a64 hF64 => ?_
    refine sq (v := (.pointer (some ⟨g0, 0, none⟩))) hF64 (wantedS rfl) (run_fldA (m := 1) (s := 0) rfl (hF64.ev 3 rfl) Tryd.underlying26 rfl rfl (by kernel_rfl) (by decide)) rfl (by decide) fun a65 hF65 => ?_
    refine sq (v := (.string ⟨c.m.toArray⟩)) hF65 (wantedS rfl) (run_ldF rfl (hF65.ev 66 rfl) (hM12.at 4 rfl) rfl (by kernel_rfl)) rfl (by decide) fun a66 hF66 => ?_
    refine sq (v := (.bool true)) hF66 (wantedS rfl) (run_nes rfl (hF66.ev 65 rfl) (hF66.ev 67 rfl) hne) rfl (by decide) fun a67 hF67 => ?_
    refine sqEnd ?_
    clear hF62 hF63 hF64 hF65 hF66
    refine nx ?_
    refine wp_cond_true (hF67.ev 68 rfl) ?_
    refine wp_region_lit ?_
    refine sq (v := (.int .i64 7)) hF67 (wantedS rfl) (run_as rfl rfl) rfl (by decide) fun a68 hF68 => ?_
    refine sqEnd ?_
    clear hF67
    refine nx ?_
    refine wp_seq ?_
    refine wp_region_lit ?_
    refine sqC (v := (.bool true)) hF68 hM12 (wantedS rfl) (run_call rfl Tryd.func11 (by kernel_rfl) rfl (mapE0 )) rfl (by decide) (sfix_any w12 (HG.below hM12.below)) fun a69 w13 hb13 hF69 hM13 => ?_
    refine sq (v := (.bool true)) hF69 (wantedS rfl) (run_mv rfl (hF69.ev 69 rfl)) rfl (by decide) fun a70 hF70 => ?_
    refine sq (v := (.int .i64 7)) hF70 (wantedG hF70 rfl rfl rfl rfl rfl) (run_mv rfl (hF70.ev 15 rfl)) rfl (by decide) fun a71 hF71 => ?_
    refine sq (v := (.int .i64 7)) hF71 (wantedG hF71 rfl rfl rfl rfl rfl) (run_mv rfl (hF71.ev 16 rfl)) rfl (by decide) fun a72 hF72 => ?_
    refine sq (v := (.bool true)) hF72 (wantedG hF72 rfl rfl rfl rfl rfl) (run_eqi rfl (hF72.ev 71 rfl) (hF72.ev 72 rfl) (beq_self_eq_true _)) rfl (by decide) fun a73 hF73 => ?_
    refine sq (v := (.bool true)) hF73 (wantedS rfl) (run_pick rfl (hF73.ev 70 rfl) (hF73.ev 73 rfl) rfl) rfl (by decide) fun a74 hF74 => ?_
    refine sq (v := (.bool true)) hF74 (wantedS rfl) (run_mv rfl (hF74.ev 74 rfl)) rfl (by decide) fun a75 hF75 => ?_
    refine sq (v := (.string ⟨List.toArray []⟩)) hF75 (wantedG hF75 rfl rfl rfl rfl rfl) (run_mv rfl (hF75.ev 14 rfl)) rfl (by decide) fun a76 hF76 => ?_
    refine sq (v := (.bool true)) hF76 (wantedG hF76 rfl rfl rfl rfl rfl) (run_eqs rfl (hF76.ev 76 rfl) rfl (beq_self_eq_true _)) rfl (by decide) fun a77 hF77 => ?_
    refine sq (v := (.bool true)) hF77 (wantedS rfl) (run_pick rfl (hF77.ev 75 rfl) (hF77.ev 77 rfl) rfl) rfl (by decide) fun a78 hF78 => ?_
    refine sq (v := (.bool true)) hF78 (wantedS rfl) (run_mv rfl (hF78.ev 78 rfl)) rfl (by decide) fun a79 hF79 => ?_
    refine sq (v := (.agg (chA noCh))) hF79 (wantedG hF79 rfl rfl rfl rfl rfl) (run_ldB rfl (hF79.ev 13 rfl) (hM13.at 0 rfl) Tryd.underlying26 rfl szCh (chA_size noCh_len)) rfl (by decide) fun a80 hF80 => ?_
    refine sq (v := (.agg (chA noCh))) hF80 (wantedG hF80 rfl rfl rfl rfl rfl) (run_blt (vs := #[]) (cs := chA noCh) rfl (by simp) built_ch0) rfl (by decide) fun a81 hF81 => ?_
    refine sq (v := (.bool true)) hF81 (wantedG hF81 rfl rfl rfl rfl rfl) (run_eqCh noCh_len rfl (hF81.ev 80 rfl) (hF81.ev 81 rfl)) rfl (by decide) fun a82 hF82 => ?_
    refine sq (v := (.bool true)) hF82 (wantedS rfl) (run_pick rfl (hF82.ev 79 rfl) (hF82.ev 82 rfl) rfl) rfl (by decide) fun a83 hF83 => ?_
    refine sq (v := (.bool true)) hF83 (wantedS rfl) (run_as rfl (hF83.ev 83 rfl)) rfl (by decide) fun a84 hF84 => ?_
    refine sqEnd ?_
    clear hF68 hF69 hF70 hF71 hF72 hF73 hF74 hF75 hF76 hF77 hF78 hF79 hF80 hF81 hF82 hF83 hM12
    refine nx ?_
    refine wp_ret ?_
    exact ret1 hF84 rfl rfl ⟨rfl, hM13.below⟩
end Go.Proofs.YtioioibcldgknaaDoor
