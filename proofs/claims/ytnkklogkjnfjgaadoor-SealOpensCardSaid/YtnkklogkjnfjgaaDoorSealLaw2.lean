/- The walk of the law SealOpens. Printed by gen_slaw4.py. -/
import Derived.Test.YtnkklogkjnfjgaaDoorSealAwake
import Derived.Test.YtnkklogkjnfjgaaDoorRef04B
namespace Go.Proofs.YtnkklogkjnfjgaaDoor
open Go.RowKit

attribute [local simp] xorS_len tagS_len keyedS_len nonceS_len
set_option maxRecDepth 100000 in
set_option maxHeartbeats 1000000 in
theorem lawOpens_any (k h x : List UInt8) (w : World) (HG : Glob w) (hLk : k.length = 32) (hh : h.length ≤ maxLen) (hx : x.length ≤ maxLen) :
    Calls Tryd.prog 4 #[.agg (cells8 k), .string ⟨h.toArray⟩, .string ⟨x.toArray⟩] w fun e w' => e = .returned (.bool true) ∧ Below w.heap.size w w' := by
  unfold maxLen at *
  by_cases h1 : 400 < h.length
  · skip
    refine walk_enter Tryd.func4 rfl rfl rfl fun a0 hF0 => ?_
    have hM0 := Mem.new w
    refine wp_seq ?_
    refine wp_region_lit ?_
    refine sqNew (cs := (cells8 k)) (t := 23) hF0 hM0 (wantedS rfl) (run_box rfl (hF0.ev 0 rfl)) rfl (by decide) fun g0 a1 w1 hgg0 hb1 hF1 hM1 => ?_
    refine sq (v := (.bool false)) hF1 (wantedS rfl) (run_as rfl rfl) rfl (by decide) fun a2 hF2 => ?_
    refine sqEnd ?_
    clear hF0 hF1 hM0
    refine nx ?_
    refine wp_seq ?_
    refine wp_seq ?_
    refine wp_region_lit ?_
    refine sq (v := (.string ⟨h.toArray⟩)) hF2 (wantedS rfl) (run_mv rfl (hF2.ev 1 rfl)) rfl (by decide) fun a3 hF3 => ?_
    refine sq (v := (.int .i64 (h.length : Int))) hF3 (wantedS rfl) (run_len rfl (hF3.ev 11 rfl) rfl Tryd.underlying9) rfl (by decide) fun a4 hF4 => ?_
    refine sq (v := (.bool true)) hF4 (wantedS rfl) (run_gtr rfl (hF4.ev 12 rfl) rfl (decide_eq_true (by omega))) rfl (by decide) fun a5 hF5 => ?_
    refine sq (v := (.bool true)) hF5 (wantedS rfl) (run_mv rfl (hF5.ev 13 rfl)) rfl (by decide) fun a6 hF6 => ?_
    refine sqSkip hF6 (unwantedG hF6 rfl rfl rfl rfl rfl) rfl (by decide) fun a7 hF7 => ?_
    refine sqSkip hF7 (unwantedG hF7 rfl rfl rfl rfl rfl) rfl (by decide) fun a8 hF8 => ?_
    refine sqSkip hF8 (unwantedG hF8 rfl rfl rfl rfl rfl) rfl (by decide) fun a9 hF9 => ?_
    refine sq (v := (.bool true)) hF9 (wantedS rfl) (run_pick rfl (hF9.ev 14 rfl) rfl (hF9.ev 17 rfl)) rfl (by decide) fun a10 hF10 => ?_
    refine sqEnd ?_
    clear hF2 hF3 hF4 hF5 hF6 hF7 hF8 hF9
    refine nx ?_
    refine wp_cond_true (hF10.ev 18 rfl) ?_
    refine wp_seq ?_
    refine wp_region_lit ?_
    refine sqC (v := (.bool true)) hF10 hM1 (wantedS rfl) (run_call rfl Tryd.func12 (by kernel_rfl) rfl (mapE0 )) rfl (by decide) (awake_any w1 (HG.below hM1.below)) fun a11 w2 hb2 hF11 hM2 => ?_
    refine sq (v := (.bool true)) hF11 (wantedS rfl) (run_as rfl (hF11.ev 19 rfl)) rfl (by decide) fun a12 hF12 => ?_
    refine sqEnd ?_
    clear hF10 hF11 hM1
    refine nx ?_
    refine wp_ret ?_
    refine nxRet ?_
    exact ret1 hF12 rfl rfl ⟨rfl, hM2.below⟩
  by_cases h2 : 400 < x.length
  · skip
    refine walk_enter Tryd.func4 rfl rfl rfl fun a0 hF0 => ?_
    have hM0 := Mem.new w
    refine wp_seq ?_
    refine wp_region_lit ?_
    refine sqNew (cs := (cells8 k)) (t := 23) hF0 hM0 (wantedS rfl) (run_box rfl (hF0.ev 0 rfl)) rfl (by decide) fun g0 a1 w1 hgg0 hb1 hF1 hM1 => ?_
    refine sq (v := (.bool false)) hF1 (wantedS rfl) (run_as rfl rfl) rfl (by decide) fun a2 hF2 => ?_
    refine sqEnd ?_
    clear hF0 hF1 hM0
    refine nx ?_
    refine wp_seq ?_
    refine wp_seq ?_
    refine wp_region_lit ?_
    refine sq (v := (.string ⟨h.toArray⟩)) hF2 (wantedS rfl) (run_mv rfl (hF2.ev 1 rfl)) rfl (by decide) fun a3 hF3 => ?_
    refine sq (v := (.int .i64 (h.length : Int))) hF3 (wantedS rfl) (run_len rfl (hF3.ev 11 rfl) rfl Tryd.underlying9) rfl (by decide) fun a4 hF4 => ?_
    refine sq (v := (.bool false)) hF4 (wantedS rfl) (run_gtr rfl (hF4.ev 12 rfl) rfl (decide_eq_false (by omega))) rfl (by decide) fun a5 hF5 => ?_
    refine sq (v := (.bool false)) hF5 (wantedS rfl) (run_mv rfl (hF5.ev 13 rfl)) rfl (by decide) fun a6 hF6 => ?_
    refine sq (v := (.string ⟨x.toArray⟩)) hF6 (wantedG hF6 rfl rfl rfl rfl rfl) (run_mv rfl (hF6.ev 2 rfl)) rfl (by decide) fun a7 hF7 => ?_
    refine sq (v := (.int .i64 (x.length : Int))) hF7 (wantedG hF7 rfl rfl rfl rfl rfl) (run_len rfl (hF7.ev 15 rfl) rfl Tryd.underlying9) rfl (by decide) fun a8 hF8 => ?_
    refine sq (v := (.bool true)) hF8 (wantedG hF8 rfl rfl rfl rfl rfl) (run_gtr rfl (hF8.ev 16 rfl) rfl (decide_eq_true (by omega))) rfl (by decide) fun a9 hF9 => ?_
    refine sq (v := (.bool true)) hF9 (wantedS rfl) (run_pick rfl (hF9.ev 14 rfl) rfl (hF9.ev 17 rfl)) rfl (by decide) fun a10 hF10 => ?_
    refine sqEnd ?_
    clear hF2 hF3 hF4 hF5 hF6 hF7 hF8 hF9
    refine nx ?_
    refine wp_cond_true (hF10.ev 18 rfl) ?_
    refine wp_seq ?_
    refine wp_region_lit ?_
    refine sqC (v := (.bool true)) hF10 hM1 (wantedS rfl) (run_call rfl Tryd.func12 (by kernel_rfl) rfl (mapE0 )) rfl (by decide) (awake_any w1 (HG.below hM1.below)) fun a11 w2 hb2 hF11 hM2 => ?_
    refine sq (v := (.bool true)) hF11 (wantedS rfl) (run_as rfl (hF11.ev 19 rfl)) rfl (by decide) fun a12 hF12 => ?_
    refine sqEnd ?_
    clear hF10 hF11 hM1
    refine nx ?_
    refine wp_ret ?_
    refine nxRet ?_
    exact ret1 hF12 rfl rfl ⟨rfl, hM2.below⟩
  refine walk_enter Tryd.func4 rfl rfl rfl fun a0 hF0 => ?_
  have hM0 := Mem.new w
  refine wp_seq ?_
  refine wp_region_lit ?_
  refine sqNew (cs := (cells8 k)) (t := 23) hF0 hM0 (wantedS rfl) (run_box rfl (hF0.ev 0 rfl)) rfl (by decide) fun g0 a1 w1 hgg0 hb1 hF1 hM1 => ?_
  refine sq (v := (.bool false)) hF1 (wantedS rfl) (run_as rfl rfl) rfl (by decide) fun a2 hF2 => ?_
  refine sqEnd ?_
  clear hF0 hF1 hM0
  refine nx ?_
  refine wp_seq ?_
  refine wp_seq ?_
  refine wp_region_lit ?_
  refine sq (v := (.string ⟨h.toArray⟩)) hF2 (wantedS rfl) (run_mv rfl (hF2.ev 1 rfl)) rfl (by decide) fun a3 hF3 => ?_
  refine sq (v := (.int .i64 (h.length : Int))) hF3 (wantedS rfl) (run_len rfl (hF3.ev 11 rfl) rfl Tryd.underlying9) rfl (by decide) fun a4 hF4 => ?_
  refine sq (v := (.bool false)) hF4 (wantedS rfl) (run_gtr rfl (hF4.ev 12 rfl) rfl (decide_eq_false (by omega))) rfl (by decide) fun a5 hF5 => ?_
  refine sq (v := (.bool false)) hF5 (wantedS rfl) (run_mv rfl (hF5.ev 13 rfl)) rfl (by decide) fun a6 hF6 => ?_
  refine sq (v := (.string ⟨x.toArray⟩)) hF6 (wantedG hF6 rfl rfl rfl rfl rfl) (run_mv rfl (hF6.ev 2 rfl)) rfl (by decide) fun a7 hF7 => ?_
  refine sq (v := (.int .i64 (x.length : Int))) hF7 (wantedG hF7 rfl rfl rfl rfl rfl) (run_len rfl (hF7.ev 15 rfl) rfl Tryd.underlying9) rfl (by decide) fun a8 hF8 => ?_
  refine sq (v := (.bool false)) hF8 (wantedG hF8 rfl rfl rfl rfl rfl) (run_gtr rfl (hF8.ev 16 rfl) rfl (decide_eq_false (by omega))) rfl (by decide) fun a9 hF9 => ?_
  refine sq (v := (.bool false)) hF9 (wantedS rfl) (run_pick rfl (hF9.ev 14 rfl) rfl (hF9.ev 17 rfl)) rfl (by decide) fun a10 hF10 => ?_
  refine sqEnd ?_
  clear hF2 hF3 hF4 hF5 hF6 hF7 hF8 hF9
  refine nx ?_
  refine wp_cond_false (hF10.ev 18 rfl) ?_
  refine wp_skip ?_
  refine nx ?_
  refine wp_seq ?_
  refine wp_region_lit ?_
  refine sq (v := (.agg (cells8 k))) hF10 (wantedS rfl) (run_ldB rfl (hF10.ev 3 rfl) (hM1.at 0 rfl) Tryd.underlying23 rfl sz32k (szOf hLk)) rfl (by decide) fun a11 hF11 => ?_
  refine sq (v := (.string ⟨h.toArray⟩)) hF11 (wantedS rfl) (run_mv rfl (hF11.ev 1 rfl)) rfl (by decide) fun a12 hF12 => ?_
  refine sq (v := (.string ⟨x.toArray⟩)) hF12 (wantedS rfl) (run_mv rfl (hF12.ev 2 rfl)) rfl (by decide) fun a13 hF13 => ?_
  refine sqC (v := (.tuple #[(.string ⟨((openS k h x).1).toArray⟩), (.int .i64 ((openS k h x).2))])) hF13 hM1 (wantedS rfl) (run_call rfl Tryd.func14 (by kernel_rfl) rfl (mapE3 (hF13.ev 21 rfl) (hF13.ev 22 rfl) (hF13.ev 23 rfl))) rfl (by decide) (sopen_any k h x w1 (HG.below hM1.below) hLk (by first | omega | decide | (simp; omega))) fun a14 w2 hb2 hF14 hM2 => ?_
  refine sq (v := (.tuple #[(.string ⟨((openS k h x).1).toArray⟩), (.int .i64 ((openS k h x).2))])) hF14 (wantedS rfl) (run_mv rfl (hF14.ev 24 rfl)) rfl (by decide) fun a15 hF15 => ?_
  refine sq (v := (.string ⟨((openS k h x).1).toArray⟩)) hF15 (wantedS rfl) (run_ext rfl (hF15.ev 20 rfl) rfl) rfl (by decide) fun a16 hF16 => ?_
  refine sq (v := (.int .i64 ((openS k h x).2))) hF16 (wantedS rfl) (run_ext rfl (hF16.ev 20 rfl) rfl) rfl (by decide) fun a17 hF17 => ?_
  refine sq (v := (.string ⟨((openS k h x).1).toArray⟩)) hF17 (wantedS rfl) (run_as rfl (hF17.ev 25 rfl)) rfl (by decide) fun a18 hF18 => ?_
  refine sq (v := (.int .i64 ((openS k h x).2))) hF18 (wantedS rfl) (run_as rfl (hF18.ev 26 rfl)) rfl (by decide) fun a19 hF19 => ?_
  refine sqEnd ?_
  clear hF10 hF11 hF12 hF13 hF14 hF15 hF16 hF17 hF18 hM1
  refine nx ?_
  refine wp_seq ?_
  refine wp_region_lit ?_
  refine sq (v := (.agg (cells8 k))) hF19 (wantedS rfl) (run_ldB rfl (hF19.ev 3 rfl) (hM2.at 0 rfl) Tryd.underlying23 rfl sz32k (szOf hLk)) rfl (by decide) fun a20 hF20 => ?_
  refine sq (v := (.string ⟨h.toArray⟩)) hF20 (wantedS rfl) (run_mv rfl (hF20.ev 1 rfl)) rfl (by decide) fun a21 hF21 => ?_
  refine sq (v := (.string ⟨x.toArray⟩)) hF21 (wantedS rfl) (run_mv rfl (hF21.ev 2 rfl)) rfl (by decide) fun a22 hF22 => ?_
  refine sqC (v := (.tuple #[(.string ⟨((openS k h x).1).toArray⟩), (.int .i64 ((openS k h x).2))])) hF22 hM2 (wantedS rfl) (run_call rfl Tryd.func16 (by kernel_rfl) rfl (mapE3 (hF22.ev 28 rfl) (hF22.ev 29 rfl) (hF22.ev 30 rfl))) rfl (by decide) (ropen_any k h x w2 hLk (by first | omega | decide | (simp; omega))) fun a23 w3 hb3 hF23 hM3 => ?_
  refine sq (v := (.tuple #[(.string ⟨((openS k h x).1).toArray⟩), (.int .i64 ((openS k h x).2))])) hF23 (wantedS rfl) (run_mv rfl (hF23.ev 31 rfl)) rfl (by decide) fun a24 hF24 => ?_
  refine sq (v := (.string ⟨((openS k h x).1).toArray⟩)) hF24 (wantedS rfl) (run_ext rfl (hF24.ev 27 rfl) rfl) rfl (by decide) fun a25 hF25 => ?_
  refine sq (v := (.int .i64 ((openS k h x).2))) hF25 (wantedS rfl) (run_ext rfl (hF25.ev 27 rfl) rfl) rfl (by decide) fun a26 hF26 => ?_
  refine sq (v := (.string ⟨((openS k h x).1).toArray⟩)) hF26 (wantedS rfl) (run_as rfl (hF26.ev 32 rfl)) rfl (by decide) fun a27 hF27 => ?_
  refine sq (v := (.int .i64 ((openS k h x).2))) hF27 (wantedS rfl) (run_as rfl (hF27.ev 33 rfl)) rfl (by decide) fun a28 hF28 => ?_
  refine sqEnd ?_
  clear hF19 hF20 hF21 hF22 hF23 hF24 hF25 hF26 hF27 hM2
  refine nx ?_
  refine wp_seq ?_
  refine wp_region_lit ?_
  refine sq (v := (.string ⟨((openS k h x).1).toArray⟩)) hF28 (wantedS rfl) (run_mv rfl (hF28.ev 7 rfl)) rfl (by decide) fun a29 hF29 => ?_
  refine sq (v := (.string ⟨((openS k h x).1).toArray⟩)) hF29 (wantedS rfl) (run_mv rfl (hF29.ev 9 rfl)) rfl (by decide) fun a30 hF30 => ?_
  refine sq (v := (.bool true)) hF30 (wantedS rfl) (run_eqs rfl (hF30.ev 34 rfl) (hF30.ev 35 rfl) (beq_self_eq_true _)) rfl (by decide) fun a31 hF31 => ?_
  refine sq (v := (.bool true)) hF31 (wantedS rfl) (run_mv rfl (hF31.ev 36 rfl)) rfl (by decide) fun a32 hF32 => ?_
  refine sq (v := (.int .i64 ((openS k h x).2))) hF32 (wantedG hF32 rfl rfl rfl rfl rfl) (run_mv rfl (hF32.ev 8 rfl)) rfl (by decide) fun a33 hF33 => ?_
  refine sq (v := (.int .i64 ((openS k h x).2))) hF33 (wantedG hF33 rfl rfl rfl rfl rfl) (run_mv rfl (hF33.ev 10 rfl)) rfl (by decide) fun a34 hF34 => ?_
  refine sq (v := (.bool true)) hF34 (wantedG hF34 rfl rfl rfl rfl rfl) (run_eqi rfl (hF34.ev 38 rfl) (hF34.ev 39 rfl) (beq_self_eq_true _)) rfl (by decide) fun a35 hF35 => ?_
  refine sq (v := (.bool true)) hF35 (wantedS rfl) (run_pick rfl (hF35.ev 37 rfl) (hF35.ev 40 rfl) rfl) rfl (by decide) fun a36 hF36 => ?_
  refine sq (v := (.bool true)) hF36 (wantedS rfl) (run_mv rfl (hF36.ev 41 rfl)) rfl (by decide) fun a37 hF37 => ?_
  refine sqC (v := (.bool true)) hF37 hM3 (wantedG hF37 rfl rfl rfl rfl rfl) (run_call rfl Tryd.func12 (by kernel_rfl) rfl (mapE0 )) rfl (by decide) (awake_any w3 (HG.below hM3.below)) fun a38 w4 hb4 hF38 hM4 => ?_
  refine sq (v := (.bool true)) hF38 (wantedS rfl) (run_pick rfl (hF38.ev 42 rfl) (hF38.ev 43 rfl) rfl) rfl (by decide) fun a39 hF39 => ?_
  refine sq (v := (.bool true)) hF39 (wantedS rfl) (run_as rfl (hF39.ev 44 rfl)) rfl (by decide) fun a40 hF40 => ?_
  refine sqEnd ?_
  clear hF28 hF29 hF30 hF31 hF32 hF33 hF34 hF35 hF36 hF37 hF38 hF39 hM3
  refine nx ?_
  refine wp_ret ?_
  exact ret1 hF40 rfl rfl ⟨rfl, hM4.below⟩
end Go.Proofs.YtnkklogkjnfjgaaDoor
