/- The walk of the law SealKeys. Printed by gen_slaw4.py. -/
import Derived.Test.YtnkklogkjnfjgaaDoorSealAwake
import Derived.Test.YtnkklogkjnfjgaaDoorRef04B
namespace Go.Proofs.YtnkklogkjnfjgaaDoor
open Go.RowKit

attribute [local simp] xorS_len tagS_len keyedS_len nonceS_len
theorem openS_or (k h x : List UInt8) (hn : (openS k h x).2 ≠ 0) : (openS k h x).1 = [] := by
  unfold openS at hn ⊢
  split
  · rfl
  · rename_i hs
    rw [if_neg hs] at hn
    split
    · rename_i ht
      rw [if_pos ht] at hn
      exact absurd rfl hn
    · rfl
set_option maxRecDepth 100000 in
set_option maxHeartbeats 1000000 in
theorem lawKeys_any (k other h d : List UInt8) (w : World) (HG : Glob w) (hLk : k.length = 32) (hLother : other.length = 32) (hh : h.length ≤ maxLen) (hd : d.length ≤ maxLen) :
    Calls Tryd.prog 6 #[.agg (cells8 k), .agg (cells8 other), .string ⟨h.toArray⟩, .string ⟨d.toArray⟩] w fun e w' => e = .returned (.bool true) ∧ Below w.heap.size w w' := by
  unfold maxLen at *
  by_cases h1 : 300 < h.length
  · skip
    refine walk_enter Tryd.func6 rfl rfl rfl fun a0 hF0 => ?_
    have hM0 := Mem.new w
    refine wp_seq ?_
    refine wp_region_lit ?_
    refine sqNew (cs := (cells8 k)) (t := 23) hF0 hM0 (wantedS rfl) (run_box rfl (hF0.ev 0 rfl)) rfl (by decide) fun g0 a1 w1 hgg0 hb1 hF1 hM1 => ?_
    refine sqNew (cs := (cells8 other)) (t := 23) hF1 hM1 (wantedS rfl) (run_box rfl (hF1.ev 1 rfl)) rfl (by decide) fun g1 a2 w2 hgg1 hb2 hF2 hM2 => ?_
    refine sq (v := (.bool false)) hF2 (wantedS rfl) (run_as rfl rfl) rfl (by decide) fun a3 hF3 => ?_
    refine sqEnd ?_
    clear hF0 hF1 hF2 hM0 hM1
    refine nx ?_
    refine wp_seq ?_
    refine wp_seq ?_
    refine wp_region_lit ?_
    refine sq (v := (.string ⟨h.toArray⟩)) hF3 (wantedS rfl) (run_mv rfl (hF3.ev 2 rfl)) rfl (by decide) fun a4 hF4 => ?_
    refine sq (v := (.int .i64 (h.length : Int))) hF4 (wantedS rfl) (run_len rfl (hF4.ev 15 rfl) rfl Tryd.underlying9) rfl (by decide) fun a5 hF5 => ?_
    refine sq (v := (.bool true)) hF5 (wantedS rfl) (run_gtr rfl (hF5.ev 16 rfl) rfl (decide_eq_true (by omega))) rfl (by decide) fun a6 hF6 => ?_
    refine sq (v := (.bool true)) hF6 (wantedS rfl) (run_mv rfl (hF6.ev 17 rfl)) rfl (by decide) fun a7 hF7 => ?_
    refine sqSkip hF7 (unwantedG hF7 rfl rfl rfl rfl rfl) rfl (by decide) fun a8 hF8 => ?_
    refine sqSkip hF8 (unwantedG hF8 rfl rfl rfl rfl rfl) rfl (by decide) fun a9 hF9 => ?_
    refine sqSkip hF9 (unwantedG hF9 rfl rfl rfl rfl rfl) rfl (by decide) fun a10 hF10 => ?_
    refine sq (v := (.bool true)) hF10 (wantedS rfl) (run_pick rfl (hF10.ev 18 rfl) rfl (hF10.ev 21 rfl)) rfl (by decide) fun a11 hF11 => ?_
    refine sqEnd ?_
    clear hF3 hF4 hF5 hF6 hF7 hF8 hF9 hF10
    refine nx ?_
    refine wp_cond_true (hF11.ev 22 rfl) ?_
    refine wp_seq ?_
    refine wp_region_lit ?_
    refine sqC (v := (.bool true)) hF11 hM2 (wantedS rfl) (run_call rfl Tryd.func12 (by kernel_rfl) rfl (mapE0 )) rfl (by decide) (awake_any w2 (HG.below hM2.below)) fun a12 w3 hb3 hF12 hM3 => ?_
    refine sq (v := (.bool true)) hF12 (wantedS rfl) (run_as rfl (hF12.ev 23 rfl)) rfl (by decide) fun a13 hF13 => ?_
    refine sqEnd ?_
    clear hF11 hF12 hM2
    refine nx ?_
    refine wp_ret ?_
    refine nxRet ?_
    exact ret1 hF13 rfl rfl ⟨rfl, hM3.below⟩
  by_cases h2 : 300 < d.length
  · skip
    refine walk_enter Tryd.func6 rfl rfl rfl fun a0 hF0 => ?_
    have hM0 := Mem.new w
    refine wp_seq ?_
    refine wp_region_lit ?_
    refine sqNew (cs := (cells8 k)) (t := 23) hF0 hM0 (wantedS rfl) (run_box rfl (hF0.ev 0 rfl)) rfl (by decide) fun g0 a1 w1 hgg0 hb1 hF1 hM1 => ?_
    refine sqNew (cs := (cells8 other)) (t := 23) hF1 hM1 (wantedS rfl) (run_box rfl (hF1.ev 1 rfl)) rfl (by decide) fun g1 a2 w2 hgg1 hb2 hF2 hM2 => ?_
    refine sq (v := (.bool false)) hF2 (wantedS rfl) (run_as rfl rfl) rfl (by decide) fun a3 hF3 => ?_
    refine sqEnd ?_
    clear hF0 hF1 hF2 hM0 hM1
    refine nx ?_
    refine wp_seq ?_
    refine wp_seq ?_
    refine wp_region_lit ?_
    refine sq (v := (.string ⟨h.toArray⟩)) hF3 (wantedS rfl) (run_mv rfl (hF3.ev 2 rfl)) rfl (by decide) fun a4 hF4 => ?_
    refine sq (v := (.int .i64 (h.length : Int))) hF4 (wantedS rfl) (run_len rfl (hF4.ev 15 rfl) rfl Tryd.underlying9) rfl (by decide) fun a5 hF5 => ?_
    refine sq (v := (.bool false)) hF5 (wantedS rfl) (run_gtr rfl (hF5.ev 16 rfl) rfl (decide_eq_false (by omega))) rfl (by decide) fun a6 hF6 => ?_
    refine sq (v := (.bool false)) hF6 (wantedS rfl) (run_mv rfl (hF6.ev 17 rfl)) rfl (by decide) fun a7 hF7 => ?_
    refine sq (v := (.string ⟨d.toArray⟩)) hF7 (wantedG hF7 rfl rfl rfl rfl rfl) (run_mv rfl (hF7.ev 3 rfl)) rfl (by decide) fun a8 hF8 => ?_
    refine sq (v := (.int .i64 (d.length : Int))) hF8 (wantedG hF8 rfl rfl rfl rfl rfl) (run_len rfl (hF8.ev 19 rfl) rfl Tryd.underlying9) rfl (by decide) fun a9 hF9 => ?_
    refine sq (v := (.bool true)) hF9 (wantedG hF9 rfl rfl rfl rfl rfl) (run_gtr rfl (hF9.ev 20 rfl) rfl (decide_eq_true (by omega))) rfl (by decide) fun a10 hF10 => ?_
    refine sq (v := (.bool true)) hF10 (wantedS rfl) (run_pick rfl (hF10.ev 18 rfl) rfl (hF10.ev 21 rfl)) rfl (by decide) fun a11 hF11 => ?_
    refine sqEnd ?_
    clear hF3 hF4 hF5 hF6 hF7 hF8 hF9 hF10
    refine nx ?_
    refine wp_cond_true (hF11.ev 22 rfl) ?_
    refine wp_seq ?_
    refine wp_region_lit ?_
    refine sqC (v := (.bool true)) hF11 hM2 (wantedS rfl) (run_call rfl Tryd.func12 (by kernel_rfl) rfl (mapE0 )) rfl (by decide) (awake_any w2 (HG.below hM2.below)) fun a12 w3 hb3 hF12 hM3 => ?_
    refine sq (v := (.bool true)) hF12 (wantedS rfl) (run_as rfl (hF12.ev 23 rfl)) rfl (by decide) fun a13 hF13 => ?_
    refine sqEnd ?_
    clear hF11 hF12 hM2
    refine nx ?_
    refine wp_ret ?_
    refine nxRet ?_
    exact ret1 hF13 rfl rfl ⟨rfl, hM3.below⟩
  have hsl := sealS_len k (nonceS d) h d (nonceS_len d)
  have hor := openS_or other h (sealS k (nonceS d) h d)
  by_cases hok : (openS other h (sealS k (nonceS d) h d)).2 = 0
  · skip
    refine walk_enter Tryd.func6 rfl rfl rfl fun a0 hF0 => ?_
    have hM0 := Mem.new w
    refine wp_seq ?_
    refine wp_region_lit ?_
    refine sqNew (cs := (cells8 k)) (t := 23) hF0 hM0 (wantedS rfl) (run_box rfl (hF0.ev 0 rfl)) rfl (by decide) fun g0 a1 w1 hgg0 hb1 hF1 hM1 => ?_
    refine sqNew (cs := (cells8 other)) (t := 23) hF1 hM1 (wantedS rfl) (run_box rfl (hF1.ev 1 rfl)) rfl (by decide) fun g1 a2 w2 hgg1 hb2 hF2 hM2 => ?_
    refine sq (v := (.bool false)) hF2 (wantedS rfl) (run_as rfl rfl) rfl (by decide) fun a3 hF3 => ?_
    refine sqEnd ?_
    clear hF0 hF1 hF2 hM0 hM1
    refine nx ?_
    refine wp_seq ?_
    refine wp_seq ?_
    refine wp_region_lit ?_
    refine sq (v := (.string ⟨h.toArray⟩)) hF3 (wantedS rfl) (run_mv rfl (hF3.ev 2 rfl)) rfl (by decide) fun a4 hF4 => ?_
    refine sq (v := (.int .i64 (h.length : Int))) hF4 (wantedS rfl) (run_len rfl (hF4.ev 15 rfl) rfl Tryd.underlying9) rfl (by decide) fun a5 hF5 => ?_
    refine sq (v := (.bool false)) hF5 (wantedS rfl) (run_gtr rfl (hF5.ev 16 rfl) rfl (decide_eq_false (by omega))) rfl (by decide) fun a6 hF6 => ?_
    refine sq (v := (.bool false)) hF6 (wantedS rfl) (run_mv rfl (hF6.ev 17 rfl)) rfl (by decide) fun a7 hF7 => ?_
    refine sq (v := (.string ⟨d.toArray⟩)) hF7 (wantedG hF7 rfl rfl rfl rfl rfl) (run_mv rfl (hF7.ev 3 rfl)) rfl (by decide) fun a8 hF8 => ?_
    refine sq (v := (.int .i64 (d.length : Int))) hF8 (wantedG hF8 rfl rfl rfl rfl rfl) (run_len rfl (hF8.ev 19 rfl) rfl Tryd.underlying9) rfl (by decide) fun a9 hF9 => ?_
    refine sq (v := (.bool false)) hF9 (wantedG hF9 rfl rfl rfl rfl rfl) (run_gtr rfl (hF9.ev 20 rfl) rfl (decide_eq_false (by omega))) rfl (by decide) fun a10 hF10 => ?_
    refine sq (v := (.bool false)) hF10 (wantedS rfl) (run_pick rfl (hF10.ev 18 rfl) rfl (hF10.ev 21 rfl)) rfl (by decide) fun a11 hF11 => ?_
    refine sqEnd ?_
    clear hF3 hF4 hF5 hF6 hF7 hF8 hF9 hF10
    refine nx ?_
    refine wp_cond_false (hF11.ev 22 rfl) ?_
    refine wp_skip ?_
    refine nx ?_
    refine wp_seq ?_
    refine wp_region_lit ?_
    refine sq (v := (.string ⟨d.toArray⟩)) hF11 (wantedS rfl) (run_mv rfl (hF11.ev 3 rfl)) rfl (by decide) fun a12 hF12 => ?_
    refine sqC (v := (.agg (cells8 (nonceS d)))) hF12 hM2 (wantedS rfl) (run_call rfl Tryd.func17 (by kernel_rfl) rfl (mapE1 (hF12.ev 24 rfl))) rfl (by decide) (snonce_any d w2) fun a13 w3 hb3 hF13 hM3 => ?_
    refine sqNew (cs := (cells8 (List.replicate 12 0))) (t := 24) hF13 hM3 (wantedS rfl) (run_alloc rfl (by kernel_rfl)) rfl (by decide) fun g2 a14 w4 hgg2 hb4 hF14 hM4 => ?_
    refine sqStore (i := 0) hF14 hM4 rfl rfl rfl (hF14.ev 9 rfl) (hF14.ev 25 rfl) rfl sz12q (szOf (nonceS_len _)) (szOf List.length_replicate) (cells8_one _) fun a15 w5 hF15 hM5 => ?_
    refine sqEnd ?_
    clear hF11 hF12 hF13 hF14 hM2 hM3 hM4
    refine nx ?_
    refine wp_seq ?_
    refine wp_region_lit ?_
    refine sq (v := (.agg (cells8 k))) hF15 (wantedS rfl) (run_ldB rfl (hF15.ev 4 rfl) (hM5.at 2 rfl) Tryd.underlying23 rfl sz32k (szOf hLk)) rfl (by decide) fun a16 hF16 => ?_
    refine sq (v := (.agg (cells8 (nonceS d)))) hF16 (wantedS rfl) (run_ldB rfl (hF16.ev 9 rfl) (hM5.at 0 rfl) Tryd.underlying24 rfl sz12q (szOf (nonceS_len _))) rfl (by decide) fun a17 hF17 => ?_
    refine sq (v := (.string ⟨h.toArray⟩)) hF17 (wantedS rfl) (run_mv rfl (hF17.ev 2 rfl)) rfl (by decide) fun a18 hF18 => ?_
    refine sq (v := (.string ⟨d.toArray⟩)) hF18 (wantedS rfl) (run_mv rfl (hF18.ev 3 rfl)) rfl (by decide) fun a19 hF19 => ?_
    refine sqC (v := (.string ⟨(sealS k (nonceS d) h d).toArray⟩)) hF19 hM5 (wantedS rfl) (run_call rfl Tryd.func13 (by kernel_rfl) rfl (mapE4 (hF19.ev 26 rfl) (hF19.ev 27 rfl) (hF19.ev 28 rfl) (hF19.ev 29 rfl))) rfl (by decide) (sseal_any k (nonceS d) h d w5 (HG.below hM5.below) hLk (nonceS_len _) (by first | omega | decide | (simp; omega))) fun a20 w6 hb6 hF20 hM6 => ?_
    refine sq (v := (.string ⟨(sealS k (nonceS d) h d).toArray⟩)) hF20 (wantedS rfl) (run_as rfl (hF20.ev 30 rfl)) rfl (by decide) fun a21 hF21 => ?_
    refine sqEnd ?_
    clear hF15 hF16 hF17 hF18 hF19 hF20 hM5
    refine nx ?_
    refine wp_seq ?_
    refine wp_region_lit ?_
    refine sq (v := (.agg (cells8 other))) hF21 (wantedS rfl) (run_ldB rfl (hF21.ev 5 rfl) (hM6.at 1 rfl) Tryd.underlying23 rfl sz32k (szOf hLother)) rfl (by decide) fun a22 hF22 => ?_
    refine sq (v := (.string ⟨h.toArray⟩)) hF22 (wantedS rfl) (run_mv rfl (hF22.ev 2 rfl)) rfl (by decide) fun a23 hF23 => ?_
    refine sq (v := (.string ⟨(sealS k (nonceS d) h d).toArray⟩)) hF23 (wantedS rfl) (run_mv rfl (hF23.ev 10 rfl)) rfl (by decide) fun a24 hF24 => ?_
    refine sqC (v := (.tuple #[(.string ⟨((openS other h (sealS k (nonceS d) h d)).1).toArray⟩), (.int .i64 ((openS other h (sealS k (nonceS d) h d)).2))])) hF24 hM6 (wantedS rfl) (run_call rfl Tryd.func14 (by kernel_rfl) rfl (mapE3 (hF24.ev 32 rfl) (hF24.ev 33 rfl) (hF24.ev 34 rfl))) rfl (by decide) (sopen_any other h (sealS k (nonceS d) h d) w6 (HG.below hM6.below) hLother (by first | omega | decide | (simp; omega))) fun a25 w7 hb7 hF25 hM7 => ?_
    refine sq (v := (.tuple #[(.string ⟨((openS other h (sealS k (nonceS d) h d)).1).toArray⟩), (.int .i64 ((openS other h (sealS k (nonceS d) h d)).2))])) hF25 (wantedS rfl) (run_mv rfl (hF25.ev 35 rfl)) rfl (by decide) fun a26 hF26 => ?_
    refine sq (v := (.string ⟨((openS other h (sealS k (nonceS d) h d)).1).toArray⟩)) hF26 (wantedS rfl) (run_ext rfl (hF26.ev 31 rfl) rfl) rfl (by decide) fun a27 hF27 => ?_
    refine sq (v := (.int .i64 ((openS other h (sealS k (nonceS d) h d)).2))) hF27 (wantedS rfl) (run_ext rfl (hF27.ev 31 rfl) rfl) rfl (by decide) fun a28 hF28 => ?_
    refine sq (v := (.string ⟨((openS other h (sealS k (nonceS d) h d)).1).toArray⟩)) hF28 (wantedS rfl) (run_as rfl (hF28.ev 36 rfl)) rfl (by decide) fun a29 hF29 => ?_
    refine sq (v := (.int .i64 ((openS other h (sealS k (nonceS d) h d)).2))) hF29 (wantedS rfl) (run_as rfl (hF29.ev 37 rfl)) rfl (by decide) fun a30 hF30 => ?_
    refine sqEnd ?_
    clear hF21 hF22 hF23 hF24 hF25 hF26 hF27 hF28 hF29 hM6
    refine nx ?_
    refine wp_seq ?_
    refine wp_region_lit ?_
    refine sq (v := (.agg (cells8 other))) hF30 (wantedS rfl) (run_ldB rfl (hF30.ev 5 rfl) (hM7.at 1 rfl) Tryd.underlying23 rfl sz32k (szOf hLother)) rfl (by decide) fun a31 hF31 => ?_
    refine sq (v := (.string ⟨h.toArray⟩)) hF31 (wantedS rfl) (run_mv rfl (hF31.ev 2 rfl)) rfl (by decide) fun a32 hF32 => ?_
    refine sq (v := (.string ⟨(sealS k (nonceS d) h d).toArray⟩)) hF32 (wantedS rfl) (run_mv rfl (hF32.ev 10 rfl)) rfl (by decide) fun a33 hF33 => ?_
    refine sqC (v := (.tuple #[(.string ⟨((openS other h (sealS k (nonceS d) h d)).1).toArray⟩), (.int .i64 ((openS other h (sealS k (nonceS d) h d)).2))])) hF33 hM7 (wantedS rfl) (run_call rfl Tryd.func16 (by kernel_rfl) rfl (mapE3 (hF33.ev 39 rfl) (hF33.ev 40 rfl) (hF33.ev 41 rfl))) rfl (by decide) (ropen_any other h (sealS k (nonceS d) h d) w7 hLother (by first | omega | decide | (simp; omega))) fun a34 w8 hb8 hF34 hM8 => ?_
    refine sq (v := (.tuple #[(.string ⟨((openS other h (sealS k (nonceS d) h d)).1).toArray⟩), (.int .i64 ((openS other h (sealS k (nonceS d) h d)).2))])) hF34 (wantedS rfl) (run_mv rfl (hF34.ev 42 rfl)) rfl (by decide) fun a35 hF35 => ?_
    refine sq (v := (.string ⟨((openS other h (sealS k (nonceS d) h d)).1).toArray⟩)) hF35 (wantedS rfl) (run_ext rfl (hF35.ev 38 rfl) rfl) rfl (by decide) fun a36 hF36 => ?_
    refine sq (v := (.int .i64 ((openS other h (sealS k (nonceS d) h d)).2))) hF36 (wantedS rfl) (run_ext rfl (hF36.ev 38 rfl) rfl) rfl (by decide) fun a37 hF37 => ?_
    refine sq (v := (.string ⟨((openS other h (sealS k (nonceS d) h d)).1).toArray⟩)) hF37 (wantedS rfl) (run_as rfl (hF37.ev 43 rfl)) rfl (by decide) fun a38 hF38 => ?_
    refine sq (v := (.int .i64 ((openS other h (sealS k (nonceS d) h d)).2))) hF38 (wantedS rfl) (run_as rfl (hF38.ev 44 rfl)) rfl (by decide) fun a39 hF39 => ?_
    refine sqEnd ?_
    clear hF30 hF31 hF32 hF33 hF34 hF35 hF36 hF37 hF38 hM7
    refine nx ?_
    refine wp_seq ?_
    refine wp_region_lit ?_
    refine sq (v := (.string ⟨((openS other h (sealS k (nonceS d) h d)).1).toArray⟩)) hF39 (wantedS rfl) (run_mv rfl (hF39.ev 11 rfl)) rfl (by decide) fun a40 hF40 => ?_
    refine sq (v := (.string ⟨((openS other h (sealS k (nonceS d) h d)).1).toArray⟩)) hF40 (wantedS rfl) (run_mv rfl (hF40.ev 13 rfl)) rfl (by decide) fun a41 hF41 => ?_
    refine sq (v := (.bool true)) hF41 (wantedS rfl) (run_eqs rfl (hF41.ev 45 rfl) (hF41.ev 46 rfl) (beq_self_eq_true _)) rfl (by decide) fun a42 hF42 => ?_
    refine sq (v := (.bool true)) hF42 (wantedS rfl) (run_mv rfl (hF42.ev 47 rfl)) rfl (by decide) fun a43 hF43 => ?_
    refine sq (v := (.int .i64 ((openS other h (sealS k (nonceS d) h d)).2))) hF43 (wantedG hF43 rfl rfl rfl rfl rfl) (run_mv rfl (hF43.ev 12 rfl)) rfl (by decide) fun a44 hF44 => ?_
    refine sq (v := (.int .i64 ((openS other h (sealS k (nonceS d) h d)).2))) hF44 (wantedG hF44 rfl rfl rfl rfl rfl) (run_mv rfl (hF44.ev 14 rfl)) rfl (by decide) fun a45 hF45 => ?_
    refine sq (v := (.bool true)) hF45 (wantedG hF45 rfl rfl rfl rfl rfl) (run_eqi rfl (hF45.ev 49 rfl) (hF45.ev 50 rfl) (beq_self_eq_true _)) rfl (by decide) fun a46 hF46 => ?_
    refine sq (v := (.bool true)) hF46 (wantedS rfl) (run_pick rfl (hF46.ev 48 rfl) (hF46.ev 51 rfl) rfl) rfl (by decide) fun a47 hF47 => ?_
    refine sq (v := (.bool true)) hF47 (wantedS rfl) (run_mv rfl (hF47.ev 52 rfl)) rfl (by decide) fun a48 hF48 => ?_
    refine sq (v := (.int .i64 ((openS other h (sealS k (nonceS d) h d)).2))) hF48 (wantedG hF48 rfl rfl rfl rfl rfl) (run_mv rfl (hF48.ev 14 rfl)) rfl (by decide) fun a49 hF49 => ?_
    refine sq (v := (.bool true)) hF49 (wantedG hF49 rfl rfl rfl rfl rfl) (run_eqi rfl (hF49.ev 54 rfl) rfl (beq_iff_eq.2 (by omega))) rfl (by decide) fun a50 hF50 => ?_
    refine sq (v := (.bool true)) hF50 (wantedG hF50 rfl rfl rfl rfl rfl) (run_mv rfl (hF50.ev 55 rfl)) rfl (by decide) fun a51 hF51 => ?_
    refine sqSkip hF51 (unwantedG hF51 rfl rfl rfl rfl rfl) rfl (by decide) fun a52 hF52 => ?_
    refine sqSkip hF52 (unwantedG hF52 rfl rfl rfl rfl rfl) rfl (by decide) fun a53 hF53 => ?_
    refine sq (v := (.bool true)) hF53 (wantedG hF53 rfl rfl rfl rfl rfl) (run_pick rfl (hF53.ev 56 rfl) rfl (hF53.ev 58 rfl)) rfl (by decide) fun a54 hF54 => ?_
    refine sq (v := (.bool true)) hF54 (wantedS rfl) (run_pick rfl (hF54.ev 53 rfl) (hF54.ev 59 rfl) rfl) rfl (by decide) fun a55 hF55 => ?_
    refine sq (v := (.bool true)) hF55 (wantedS rfl) (run_mv rfl (hF55.ev 60 rfl)) rfl (by decide) fun a56 hF56 => ?_
    refine sqC (v := (.bool true)) hF56 hM8 (wantedG hF56 rfl rfl rfl rfl rfl) (run_call rfl Tryd.func12 (by kernel_rfl) rfl (mapE0 )) rfl (by decide) (awake_any w8 (HG.below hM8.below)) fun a57 w9 hb9 hF57 hM9 => ?_
    refine sq (v := (.bool true)) hF57 (wantedS rfl) (run_pick rfl (hF57.ev 61 rfl) (hF57.ev 62 rfl) rfl) rfl (by decide) fun a58 hF58 => ?_
    refine sq (v := (.bool true)) hF58 (wantedS rfl) (run_as rfl (hF58.ev 63 rfl)) rfl (by decide) fun a59 hF59 => ?_
    refine sqEnd ?_
    clear hF39 hF40 hF41 hF42 hF43 hF44 hF45 hF46 hF47 hF48 hF49 hF50 hF51 hF52 hF53 hF54 hF55 hF56 hF57 hF58 hM8
    refine nx ?_
    refine wp_ret ?_
    exact ret1 hF59 rfl rfl ⟨rfl, hM9.below⟩
  · skip
    refine walk_enter Tryd.func6 rfl rfl rfl fun a0 hF0 => ?_
    have hM0 := Mem.new w
    refine wp_seq ?_
    refine wp_region_lit ?_
    refine sqNew (cs := (cells8 k)) (t := 23) hF0 hM0 (wantedS rfl) (run_box rfl (hF0.ev 0 rfl)) rfl (by decide) fun g0 a1 w1 hgg0 hb1 hF1 hM1 => ?_
    refine sqNew (cs := (cells8 other)) (t := 23) hF1 hM1 (wantedS rfl) (run_box rfl (hF1.ev 1 rfl)) rfl (by decide) fun g1 a2 w2 hgg1 hb2 hF2 hM2 => ?_
    refine sq (v := (.bool false)) hF2 (wantedS rfl) (run_as rfl rfl) rfl (by decide) fun a3 hF3 => ?_
    refine sqEnd ?_
    clear hF0 hF1 hF2 hM0 hM1
    refine nx ?_
    refine wp_seq ?_
    refine wp_seq ?_
    refine wp_region_lit ?_
    refine sq (v := (.string ⟨h.toArray⟩)) hF3 (wantedS rfl) (run_mv rfl (hF3.ev 2 rfl)) rfl (by decide) fun a4 hF4 => ?_
    refine sq (v := (.int .i64 (h.length : Int))) hF4 (wantedS rfl) (run_len rfl (hF4.ev 15 rfl) rfl Tryd.underlying9) rfl (by decide) fun a5 hF5 => ?_
    refine sq (v := (.bool false)) hF5 (wantedS rfl) (run_gtr rfl (hF5.ev 16 rfl) rfl (decide_eq_false (by omega))) rfl (by decide) fun a6 hF6 => ?_
    refine sq (v := (.bool false)) hF6 (wantedS rfl) (run_mv rfl (hF6.ev 17 rfl)) rfl (by decide) fun a7 hF7 => ?_
    refine sq (v := (.string ⟨d.toArray⟩)) hF7 (wantedG hF7 rfl rfl rfl rfl rfl) (run_mv rfl (hF7.ev 3 rfl)) rfl (by decide) fun a8 hF8 => ?_
    refine sq (v := (.int .i64 (d.length : Int))) hF8 (wantedG hF8 rfl rfl rfl rfl rfl) (run_len rfl (hF8.ev 19 rfl) rfl Tryd.underlying9) rfl (by decide) fun a9 hF9 => ?_
    refine sq (v := (.bool false)) hF9 (wantedG hF9 rfl rfl rfl rfl rfl) (run_gtr rfl (hF9.ev 20 rfl) rfl (decide_eq_false (by omega))) rfl (by decide) fun a10 hF10 => ?_
    refine sq (v := (.bool false)) hF10 (wantedS rfl) (run_pick rfl (hF10.ev 18 rfl) rfl (hF10.ev 21 rfl)) rfl (by decide) fun a11 hF11 => ?_
    refine sqEnd ?_
    clear hF3 hF4 hF5 hF6 hF7 hF8 hF9 hF10
    refine nx ?_
    refine wp_cond_false (hF11.ev 22 rfl) ?_
    refine wp_skip ?_
    refine nx ?_
    refine wp_seq ?_
    refine wp_region_lit ?_
    refine sq (v := (.string ⟨d.toArray⟩)) hF11 (wantedS rfl) (run_mv rfl (hF11.ev 3 rfl)) rfl (by decide) fun a12 hF12 => ?_
    refine sqC (v := (.agg (cells8 (nonceS d)))) hF12 hM2 (wantedS rfl) (run_call rfl Tryd.func17 (by kernel_rfl) rfl (mapE1 (hF12.ev 24 rfl))) rfl (by decide) (snonce_any d w2) fun a13 w3 hb3 hF13 hM3 => ?_
    refine sqNew (cs := (cells8 (List.replicate 12 0))) (t := 24) hF13 hM3 (wantedS rfl) (run_alloc rfl (by kernel_rfl)) rfl (by decide) fun g2 a14 w4 hgg2 hb4 hF14 hM4 => ?_
    refine sqStore (i := 0) hF14 hM4 rfl rfl rfl (hF14.ev 9 rfl) (hF14.ev 25 rfl) rfl sz12q (szOf (nonceS_len _)) (szOf List.length_replicate) (cells8_one _) fun a15 w5 hF15 hM5 => ?_
    refine sqEnd ?_
    clear hF11 hF12 hF13 hF14 hM2 hM3 hM4
    refine nx ?_
    refine wp_seq ?_
    refine wp_region_lit ?_
    refine sq (v := (.agg (cells8 k))) hF15 (wantedS rfl) (run_ldB rfl (hF15.ev 4 rfl) (hM5.at 2 rfl) Tryd.underlying23 rfl sz32k (szOf hLk)) rfl (by decide) fun a16 hF16 => ?_
    refine sq (v := (.agg (cells8 (nonceS d)))) hF16 (wantedS rfl) (run_ldB rfl (hF16.ev 9 rfl) (hM5.at 0 rfl) Tryd.underlying24 rfl sz12q (szOf (nonceS_len _))) rfl (by decide) fun a17 hF17 => ?_
    refine sq (v := (.string ⟨h.toArray⟩)) hF17 (wantedS rfl) (run_mv rfl (hF17.ev 2 rfl)) rfl (by decide) fun a18 hF18 => ?_
    refine sq (v := (.string ⟨d.toArray⟩)) hF18 (wantedS rfl) (run_mv rfl (hF18.ev 3 rfl)) rfl (by decide) fun a19 hF19 => ?_
    refine sqC (v := (.string ⟨(sealS k (nonceS d) h d).toArray⟩)) hF19 hM5 (wantedS rfl) (run_call rfl Tryd.func13 (by kernel_rfl) rfl (mapE4 (hF19.ev 26 rfl) (hF19.ev 27 rfl) (hF19.ev 28 rfl) (hF19.ev 29 rfl))) rfl (by decide) (sseal_any k (nonceS d) h d w5 (HG.below hM5.below) hLk (nonceS_len _) (by first | omega | decide | (simp; omega))) fun a20 w6 hb6 hF20 hM6 => ?_
    refine sq (v := (.string ⟨(sealS k (nonceS d) h d).toArray⟩)) hF20 (wantedS rfl) (run_as rfl (hF20.ev 30 rfl)) rfl (by decide) fun a21 hF21 => ?_
    refine sqEnd ?_
    clear hF15 hF16 hF17 hF18 hF19 hF20 hM5
    refine nx ?_
    refine wp_seq ?_
    refine wp_region_lit ?_
    refine sq (v := (.agg (cells8 other))) hF21 (wantedS rfl) (run_ldB rfl (hF21.ev 5 rfl) (hM6.at 1 rfl) Tryd.underlying23 rfl sz32k (szOf hLother)) rfl (by decide) fun a22 hF22 => ?_
    refine sq (v := (.string ⟨h.toArray⟩)) hF22 (wantedS rfl) (run_mv rfl (hF22.ev 2 rfl)) rfl (by decide) fun a23 hF23 => ?_
    refine sq (v := (.string ⟨(sealS k (nonceS d) h d).toArray⟩)) hF23 (wantedS rfl) (run_mv rfl (hF23.ev 10 rfl)) rfl (by decide) fun a24 hF24 => ?_
    refine sqC (v := (.tuple #[(.string ⟨((openS other h (sealS k (nonceS d) h d)).1).toArray⟩), (.int .i64 ((openS other h (sealS k (nonceS d) h d)).2))])) hF24 hM6 (wantedS rfl) (run_call rfl Tryd.func14 (by kernel_rfl) rfl (mapE3 (hF24.ev 32 rfl) (hF24.ev 33 rfl) (hF24.ev 34 rfl))) rfl (by decide) (sopen_any other h (sealS k (nonceS d) h d) w6 (HG.below hM6.below) hLother (by first | omega | decide | (simp; omega))) fun a25 w7 hb7 hF25 hM7 => ?_
    refine sq (v := (.tuple #[(.string ⟨((openS other h (sealS k (nonceS d) h d)).1).toArray⟩), (.int .i64 ((openS other h (sealS k (nonceS d) h d)).2))])) hF25 (wantedS rfl) (run_mv rfl (hF25.ev 35 rfl)) rfl (by decide) fun a26 hF26 => ?_
    refine sq (v := (.string ⟨((openS other h (sealS k (nonceS d) h d)).1).toArray⟩)) hF26 (wantedS rfl) (run_ext rfl (hF26.ev 31 rfl) rfl) rfl (by decide) fun a27 hF27 => ?_
    refine sq (v := (.int .i64 ((openS other h (sealS k (nonceS d) h d)).2))) hF27 (wantedS rfl) (run_ext rfl (hF27.ev 31 rfl) rfl) rfl (by decide) fun a28 hF28 => ?_
    refine sq (v := (.string ⟨((openS other h (sealS k (nonceS d) h d)).1).toArray⟩)) hF28 (wantedS rfl) (run_as rfl (hF28.ev 36 rfl)) rfl (by decide) fun a29 hF29 => ?_
    refine sq (v := (.int .i64 ((openS other h (sealS k (nonceS d) h d)).2))) hF29 (wantedS rfl) (run_as rfl (hF29.ev 37 rfl)) rfl (by decide) fun a30 hF30 => ?_
    refine sqEnd ?_
    clear hF21 hF22 hF23 hF24 hF25 hF26 hF27 hF28 hF29 hM6
    refine nx ?_
    refine wp_seq ?_
    refine wp_region_lit ?_
    refine sq (v := (.agg (cells8 other))) hF30 (wantedS rfl) (run_ldB rfl (hF30.ev 5 rfl) (hM7.at 1 rfl) Tryd.underlying23 rfl sz32k (szOf hLother)) rfl (by decide) fun a31 hF31 => ?_
    refine sq (v := (.string ⟨h.toArray⟩)) hF31 (wantedS rfl) (run_mv rfl (hF31.ev 2 rfl)) rfl (by decide) fun a32 hF32 => ?_
    refine sq (v := (.string ⟨(sealS k (nonceS d) h d).toArray⟩)) hF32 (wantedS rfl) (run_mv rfl (hF32.ev 10 rfl)) rfl (by decide) fun a33 hF33 => ?_
    refine sqC (v := (.tuple #[(.string ⟨((openS other h (sealS k (nonceS d) h d)).1).toArray⟩), (.int .i64 ((openS other h (sealS k (nonceS d) h d)).2))])) hF33 hM7 (wantedS rfl) (run_call rfl Tryd.func16 (by kernel_rfl) rfl (mapE3 (hF33.ev 39 rfl) (hF33.ev 40 rfl) (hF33.ev 41 rfl))) rfl (by decide) (ropen_any other h (sealS k (nonceS d) h d) w7 hLother (by first | omega | decide | (simp; omega))) fun a34 w8 hb8 hF34 hM8 => ?_
    refine sq (v := (.tuple #[(.string ⟨((openS other h (sealS k (nonceS d) h d)).1).toArray⟩), (.int .i64 ((openS other h (sealS k (nonceS d) h d)).2))])) hF34 (wantedS rfl) (run_mv rfl (hF34.ev 42 rfl)) rfl (by decide) fun a35 hF35 => ?_
    refine sq (v := (.string ⟨((openS other h (sealS k (nonceS d) h d)).1).toArray⟩)) hF35 (wantedS rfl) (run_ext rfl (hF35.ev 38 rfl) rfl) rfl (by decide) fun a36 hF36 => ?_
    refine sq (v := (.int .i64 ((openS other h (sealS k (nonceS d) h d)).2))) hF36 (wantedS rfl) (run_ext rfl (hF36.ev 38 rfl) rfl) rfl (by decide) fun a37 hF37 => ?_
    refine sq (v := (.string ⟨((openS other h (sealS k (nonceS d) h d)).1).toArray⟩)) hF37 (wantedS rfl) (run_as rfl (hF37.ev 43 rfl)) rfl (by decide) fun a38 hF38 => ?_
    refine sq (v := (.int .i64 ((openS other h (sealS k (nonceS d) h d)).2))) hF38 (wantedS rfl) (run_as rfl (hF38.ev 44 rfl)) rfl (by decide) fun a39 hF39 => ?_
    refine sqEnd ?_
    clear hF30 hF31 hF32 hF33 hF34 hF35 hF36 hF37 hF38 hM7
    refine nx ?_
    refine wp_seq ?_
    refine wp_region_lit ?_
    refine sq (v := (.string ⟨((openS other h (sealS k (nonceS d) h d)).1).toArray⟩)) hF39 (wantedS rfl) (run_mv rfl (hF39.ev 11 rfl)) rfl (by decide) fun a40 hF40 => ?_
    refine sq (v := (.string ⟨((openS other h (sealS k (nonceS d) h d)).1).toArray⟩)) hF40 (wantedS rfl) (run_mv rfl (hF40.ev 13 rfl)) rfl (by decide) fun a41 hF41 => ?_
    refine sq (v := (.bool true)) hF41 (wantedS rfl) (run_eqs rfl (hF41.ev 45 rfl) (hF41.ev 46 rfl) (beq_self_eq_true _)) rfl (by decide) fun a42 hF42 => ?_
    refine sq (v := (.bool true)) hF42 (wantedS rfl) (run_mv rfl (hF42.ev 47 rfl)) rfl (by decide) fun a43 hF43 => ?_
    refine sq (v := (.int .i64 ((openS other h (sealS k (nonceS d) h d)).2))) hF43 (wantedG hF43 rfl rfl rfl rfl rfl) (run_mv rfl (hF43.ev 12 rfl)) rfl (by decide) fun a44 hF44 => ?_
    refine sq (v := (.int .i64 ((openS other h (sealS k (nonceS d) h d)).2))) hF44 (wantedG hF44 rfl rfl rfl rfl rfl) (run_mv rfl (hF44.ev 14 rfl)) rfl (by decide) fun a45 hF45 => ?_
    refine sq (v := (.bool true)) hF45 (wantedG hF45 rfl rfl rfl rfl rfl) (run_eqi rfl (hF45.ev 49 rfl) (hF45.ev 50 rfl) (beq_self_eq_true _)) rfl (by decide) fun a46 hF46 => ?_
    refine sq (v := (.bool true)) hF46 (wantedS rfl) (run_pick rfl (hF46.ev 48 rfl) (hF46.ev 51 rfl) rfl) rfl (by decide) fun a47 hF47 => ?_
    refine sq (v := (.bool true)) hF47 (wantedS rfl) (run_mv rfl (hF47.ev 52 rfl)) rfl (by decide) fun a48 hF48 => ?_
    refine sq (v := (.int .i64 ((openS other h (sealS k (nonceS d) h d)).2))) hF48 (wantedG hF48 rfl rfl rfl rfl rfl) (run_mv rfl (hF48.ev 14 rfl)) rfl (by decide) fun a49 hF49 => ?_
    refine sq (v := (.bool false)) hF49 (wantedG hF49 rfl rfl rfl rfl rfl) (run_eqi rfl (hF49.ev 54 rfl) rfl (beq_eq_false_iff_ne.2 (by omega))) rfl (by decide) fun a50 hF50 => ?_
    refine sq (v := (.bool false)) hF50 (wantedG hF50 rfl rfl rfl rfl rfl) (run_mv rfl (hF50.ev 55 rfl)) rfl (by decide) fun a51 hF51 => ?_
    refine sq (v := (.string ⟨((openS other h (sealS k (nonceS d) h d)).1).toArray⟩)) hF51 (wantedG hF51 rfl rfl rfl rfl rfl) (run_mv rfl (hF51.ev 11 rfl)) rfl (by decide) fun a52 hF52 => ?_
    refine sq (v := (.bool true)) hF52 (wantedG hF52 rfl rfl rfl rfl rfl) (run_eqs rfl (hF52.ev 57 rfl) rfl (by rw [hor hok]; rfl)) rfl (by decide) fun a53 hF53 => ?_
    refine sq (v := (.bool true)) hF53 (wantedG hF53 rfl rfl rfl rfl rfl) (run_pick rfl (hF53.ev 56 rfl) rfl (hF53.ev 58 rfl)) rfl (by decide) fun a54 hF54 => ?_
    refine sq (v := (.bool true)) hF54 (wantedS rfl) (run_pick rfl (hF54.ev 53 rfl) (hF54.ev 59 rfl) rfl) rfl (by decide) fun a55 hF55 => ?_
    refine sq (v := (.bool true)) hF55 (wantedS rfl) (run_mv rfl (hF55.ev 60 rfl)) rfl (by decide) fun a56 hF56 => ?_
    refine sqC (v := (.bool true)) hF56 hM8 (wantedG hF56 rfl rfl rfl rfl rfl) (run_call rfl Tryd.func12 (by kernel_rfl) rfl (mapE0 )) rfl (by decide) (awake_any w8 (HG.below hM8.below)) fun a57 w9 hb9 hF57 hM9 => ?_
    refine sq (v := (.bool true)) hF57 (wantedS rfl) (run_pick rfl (hF57.ev 61 rfl) (hF57.ev 62 rfl) rfl) rfl (by decide) fun a58 hF58 => ?_
    refine sq (v := (.bool true)) hF58 (wantedS rfl) (run_as rfl (hF58.ev 63 rfl)) rfl (by decide) fun a59 hF59 => ?_
    refine sqEnd ?_
    clear hF39 hF40 hF41 hF42 hF43 hF44 hF45 hF46 hF47 hF48 hF49 hF50 hF51 hF52 hF53 hF54 hF55 hF56 hF57 hF58 hM8
    refine nx ?_
    refine wp_ret ?_
    exact ret1 hF59 rfl rfl ⟨rfl, hM9.below⟩
end Go.Proofs.YtnkklogkjnfjgaaDoor
