/- The walk of the law SealBoxes. Printed by gen_slaw4.py. -/
import Derived.Test.YtnkklogkjnfjgaaDoorSealAwake
import Derived.Test.YtnkklogkjnfjgaaDoorRef04B
namespace Go.Proofs.YtnkklogkjnfjgaaDoor
open Go.RowKit

attribute [local simp] xorS_len tagS_len keyedS_len nonceS_len
theorem sopen_sealed (k nonce h d : List UInt8) (w : World) (HG : Glob w) (hk : k.length = 32) (hn : nonce.length = 12) (hl : h.length + d.length < 2 ^ 29) :
    Calls Tryd.prog 14 #[.agg (cells8 k), .string ⟨h.toArray⟩, .string ⟨(sealS k nonce h d).toArray⟩] w fun e w' => e = .returned (.tuple #[.string ⟨d.toArray⟩, .int .i64 0]) ∧ Below w.heap.size w w' := by
  have h := sopen_any k h (sealS k nonce h d) w HG hk (by rw [sealS_len _ _ _ _ hn]; omega)
  rw [openS_seal k nonce _ d hn] at h
  exact h
set_option maxRecDepth 100000 in
set_option maxHeartbeats 1000000 in
theorem lawBoxes_any (k nonce h d : List UInt8) (w : World) (HG : Glob w) (hLk : k.length = 32) (hLnonce : nonce.length = 12) (hh : h.length ≤ maxLen) (hd : d.length ≤ maxLen) :
    Calls Tryd.prog 3 #[.agg (cells8 k), .agg (cells8 nonce), .string ⟨h.toArray⟩, .string ⟨d.toArray⟩] w fun e w' => e = .returned (.bool true) ∧ Below w.heap.size w w' := by
  unfold maxLen at *
  by_cases h1 : 300 < h.length
  · skip
    refine walk_enter Tryd.func3 rfl rfl rfl fun a0 hF0 => ?_
    have hM0 := Mem.new w
    refine wp_seq ?_
    refine wp_region_lit ?_
    refine sqNew (cs := (cells8 k)) (t := 23) hF0 hM0 (wantedS rfl) (run_box rfl (hF0.ev 0 rfl)) rfl (by decide) fun g0 a1 w1 hgg0 hb1 hF1 hM1 => ?_
    refine sqNew (cs := (cells8 nonce)) (t := 24) hF1 hM1 (wantedS rfl) (run_box rfl (hF1.ev 1 rfl)) rfl (by decide) fun g1 a2 w2 hgg1 hb2 hF2 hM2 => ?_
    refine sq (v := (.bool false)) hF2 (wantedS rfl) (run_as rfl rfl) rfl (by decide) fun a3 hF3 => ?_
    refine sqEnd ?_
    clear hF0 hF1 hF2 hM0 hM1
    refine nx ?_
    refine wp_seq ?_
    refine wp_seq ?_
    refine wp_region_lit ?_
    refine sq (v := (.string ⟨h.toArray⟩)) hF3 (wantedS rfl) (run_mv rfl (hF3.ev 2 rfl)) rfl (by decide) fun a4 hF4 => ?_
    refine sq (v := (.int .i64 (h.length : Int))) hF4 (wantedS rfl) (run_len rfl (hF4.ev 12 rfl) rfl Tryd.underlying9) rfl (by decide) fun a5 hF5 => ?_
    refine sq (v := (.bool true)) hF5 (wantedS rfl) (run_gtr rfl (hF5.ev 13 rfl) rfl (decide_eq_true (by omega))) rfl (by decide) fun a6 hF6 => ?_
    refine sq (v := (.bool true)) hF6 (wantedS rfl) (run_mv rfl (hF6.ev 14 rfl)) rfl (by decide) fun a7 hF7 => ?_
    refine sqSkip hF7 (unwantedG hF7 rfl rfl rfl rfl rfl) rfl (by decide) fun a8 hF8 => ?_
    refine sqSkip hF8 (unwantedG hF8 rfl rfl rfl rfl rfl) rfl (by decide) fun a9 hF9 => ?_
    refine sqSkip hF9 (unwantedG hF9 rfl rfl rfl rfl rfl) rfl (by decide) fun a10 hF10 => ?_
    refine sq (v := (.bool true)) hF10 (wantedS rfl) (run_pick rfl (hF10.ev 15 rfl) rfl (hF10.ev 18 rfl)) rfl (by decide) fun a11 hF11 => ?_
    refine sqEnd ?_
    clear hF3 hF4 hF5 hF6 hF7 hF8 hF9 hF10
    refine nx ?_
    refine wp_cond_true (hF11.ev 19 rfl) ?_
    refine wp_seq ?_
    refine wp_region_lit ?_
    refine sqC (v := (.bool true)) hF11 hM2 (wantedS rfl) (run_call rfl Tryd.func12 (by kernel_rfl) rfl (mapE0 )) rfl (by decide) (awake_any w2 (HG.below hM2.below)) fun a12 w3 hb3 hF12 hM3 => ?_
    refine sq (v := (.bool true)) hF12 (wantedS rfl) (run_as rfl (hF12.ev 20 rfl)) rfl (by decide) fun a13 hF13 => ?_
    refine sqEnd ?_
    clear hF11 hF12 hM2
    refine nx ?_
    refine wp_ret ?_
    refine nxRet ?_
    exact ret1 hF13 rfl rfl ⟨rfl, hM3.below⟩
  by_cases h2 : 300 < d.length
  · skip
    refine walk_enter Tryd.func3 rfl rfl rfl fun a0 hF0 => ?_
    have hM0 := Mem.new w
    refine wp_seq ?_
    refine wp_region_lit ?_
    refine sqNew (cs := (cells8 k)) (t := 23) hF0 hM0 (wantedS rfl) (run_box rfl (hF0.ev 0 rfl)) rfl (by decide) fun g0 a1 w1 hgg0 hb1 hF1 hM1 => ?_
    refine sqNew (cs := (cells8 nonce)) (t := 24) hF1 hM1 (wantedS rfl) (run_box rfl (hF1.ev 1 rfl)) rfl (by decide) fun g1 a2 w2 hgg1 hb2 hF2 hM2 => ?_
    refine sq (v := (.bool false)) hF2 (wantedS rfl) (run_as rfl rfl) rfl (by decide) fun a3 hF3 => ?_
    refine sqEnd ?_
    clear hF0 hF1 hF2 hM0 hM1
    refine nx ?_
    refine wp_seq ?_
    refine wp_seq ?_
    refine wp_region_lit ?_
    refine sq (v := (.string ⟨h.toArray⟩)) hF3 (wantedS rfl) (run_mv rfl (hF3.ev 2 rfl)) rfl (by decide) fun a4 hF4 => ?_
    refine sq (v := (.int .i64 (h.length : Int))) hF4 (wantedS rfl) (run_len rfl (hF4.ev 12 rfl) rfl Tryd.underlying9) rfl (by decide) fun a5 hF5 => ?_
    refine sq (v := (.bool false)) hF5 (wantedS rfl) (run_gtr rfl (hF5.ev 13 rfl) rfl (decide_eq_false (by omega))) rfl (by decide) fun a6 hF6 => ?_
    refine sq (v := (.bool false)) hF6 (wantedS rfl) (run_mv rfl (hF6.ev 14 rfl)) rfl (by decide) fun a7 hF7 => ?_
    refine sq (v := (.string ⟨d.toArray⟩)) hF7 (wantedG hF7 rfl rfl rfl rfl rfl) (run_mv rfl (hF7.ev 3 rfl)) rfl (by decide) fun a8 hF8 => ?_
    refine sq (v := (.int .i64 (d.length : Int))) hF8 (wantedG hF8 rfl rfl rfl rfl rfl) (run_len rfl (hF8.ev 16 rfl) rfl Tryd.underlying9) rfl (by decide) fun a9 hF9 => ?_
    refine sq (v := (.bool true)) hF9 (wantedG hF9 rfl rfl rfl rfl rfl) (run_gtr rfl (hF9.ev 17 rfl) rfl (decide_eq_true (by omega))) rfl (by decide) fun a10 hF10 => ?_
    refine sq (v := (.bool true)) hF10 (wantedS rfl) (run_pick rfl (hF10.ev 15 rfl) rfl (hF10.ev 18 rfl)) rfl (by decide) fun a11 hF11 => ?_
    refine sqEnd ?_
    clear hF3 hF4 hF5 hF6 hF7 hF8 hF9 hF10
    refine nx ?_
    refine wp_cond_true (hF11.ev 19 rfl) ?_
    refine wp_seq ?_
    refine wp_region_lit ?_
    refine sqC (v := (.bool true)) hF11 hM2 (wantedS rfl) (run_call rfl Tryd.func12 (by kernel_rfl) rfl (mapE0 )) rfl (by decide) (awake_any w2 (HG.below hM2.below)) fun a12 w3 hb3 hF12 hM3 => ?_
    refine sq (v := (.bool true)) hF12 (wantedS rfl) (run_as rfl (hF12.ev 20 rfl)) rfl (by decide) fun a13 hF13 => ?_
    refine sqEnd ?_
    clear hF11 hF12 hM2
    refine nx ?_
    refine wp_ret ?_
    refine nxRet ?_
    exact ret1 hF13 rfl rfl ⟨rfl, hM3.below⟩
  have hsl := sealS_len k nonce h d hLnonce
  refine walk_enter Tryd.func3 rfl rfl rfl fun a0 hF0 => ?_
  have hM0 := Mem.new w
  refine wp_seq ?_
  refine wp_region_lit ?_
  refine sqNew (cs := (cells8 k)) (t := 23) hF0 hM0 (wantedS rfl) (run_box rfl (hF0.ev 0 rfl)) rfl (by decide) fun g0 a1 w1 hgg0 hb1 hF1 hM1 => ?_
  refine sqNew (cs := (cells8 nonce)) (t := 24) hF1 hM1 (wantedS rfl) (run_box rfl (hF1.ev 1 rfl)) rfl (by decide) fun g1 a2 w2 hgg1 hb2 hF2 hM2 => ?_
  refine sq (v := (.bool false)) hF2 (wantedS rfl) (run_as rfl rfl) rfl (by decide) fun a3 hF3 => ?_
  refine sqEnd ?_
  clear hF0 hF1 hF2 hM0 hM1
  refine nx ?_
  refine wp_seq ?_
  refine wp_seq ?_
  refine wp_region_lit ?_
  refine sq (v := (.string ⟨h.toArray⟩)) hF3 (wantedS rfl) (run_mv rfl (hF3.ev 2 rfl)) rfl (by decide) fun a4 hF4 => ?_
  refine sq (v := (.int .i64 (h.length : Int))) hF4 (wantedS rfl) (run_len rfl (hF4.ev 12 rfl) rfl Tryd.underlying9) rfl (by decide) fun a5 hF5 => ?_
  refine sq (v := (.bool false)) hF5 (wantedS rfl) (run_gtr rfl (hF5.ev 13 rfl) rfl (decide_eq_false (by omega))) rfl (by decide) fun a6 hF6 => ?_
  refine sq (v := (.bool false)) hF6 (wantedS rfl) (run_mv rfl (hF6.ev 14 rfl)) rfl (by decide) fun a7 hF7 => ?_
  refine sq (v := (.string ⟨d.toArray⟩)) hF7 (wantedG hF7 rfl rfl rfl rfl rfl) (run_mv rfl (hF7.ev 3 rfl)) rfl (by decide) fun a8 hF8 => ?_
  refine sq (v := (.int .i64 (d.length : Int))) hF8 (wantedG hF8 rfl rfl rfl rfl rfl) (run_len rfl (hF8.ev 16 rfl) rfl Tryd.underlying9) rfl (by decide) fun a9 hF9 => ?_
  refine sq (v := (.bool false)) hF9 (wantedG hF9 rfl rfl rfl rfl rfl) (run_gtr rfl (hF9.ev 17 rfl) rfl (decide_eq_false (by omega))) rfl (by decide) fun a10 hF10 => ?_
  refine sq (v := (.bool false)) hF10 (wantedS rfl) (run_pick rfl (hF10.ev 15 rfl) rfl (hF10.ev 18 rfl)) rfl (by decide) fun a11 hF11 => ?_
  refine sqEnd ?_
  clear hF3 hF4 hF5 hF6 hF7 hF8 hF9 hF10
  refine nx ?_
  refine wp_cond_false (hF11.ev 19 rfl) ?_
  refine wp_skip ?_
  refine nx ?_
  refine wp_seq ?_
  refine wp_region_lit ?_
  refine sq (v := (.agg (cells8 k))) hF11 (wantedS rfl) (run_ldB rfl (hF11.ev 4 rfl) (hM2.at 1 rfl) Tryd.underlying23 rfl sz32k (szOf hLk)) rfl (by decide) fun a12 hF12 => ?_
  refine sq (v := (.agg (cells8 nonce))) hF12 (wantedS rfl) (run_ldB rfl (hF12.ev 5 rfl) (hM2.at 0 rfl) Tryd.underlying24 rfl sz12q (szOf hLnonce)) rfl (by decide) fun a13 hF13 => ?_
  refine sq (v := (.string ⟨h.toArray⟩)) hF13 (wantedS rfl) (run_mv rfl (hF13.ev 2 rfl)) rfl (by decide) fun a14 hF14 => ?_
  refine sq (v := (.string ⟨d.toArray⟩)) hF14 (wantedS rfl) (run_mv rfl (hF14.ev 3 rfl)) rfl (by decide) fun a15 hF15 => ?_
  refine sqC (v := (.string ⟨(sealS k nonce h d).toArray⟩)) hF15 hM2 (wantedS rfl) (run_call rfl Tryd.func13 (by kernel_rfl) rfl (mapE4 (hF15.ev 21 rfl) (hF15.ev 22 rfl) (hF15.ev 23 rfl) (hF15.ev 24 rfl))) rfl (by decide) (sseal_any k nonce h d w2 (HG.below hM2.below) hLk hLnonce (by first | omega | decide | (simp; omega))) fun a16 w3 hb3 hF16 hM3 => ?_
  refine sq (v := (.string ⟨(sealS k nonce h d).toArray⟩)) hF16 (wantedS rfl) (run_as rfl (hF16.ev 25 rfl)) rfl (by decide) fun a17 hF17 => ?_
  refine sqEnd ?_
  clear hF11 hF12 hF13 hF14 hF15 hF16 hM2
  refine nx ?_
  refine wp_seq ?_
  refine wp_region_lit ?_
  refine sq (v := (.agg (cells8 k))) hF17 (wantedS rfl) (run_ldB rfl (hF17.ev 4 rfl) (hM3.at 1 rfl) Tryd.underlying23 rfl sz32k (szOf hLk)) rfl (by decide) fun a18 hF18 => ?_
  refine sq (v := (.string ⟨h.toArray⟩)) hF18 (wantedS rfl) (run_mv rfl (hF18.ev 2 rfl)) rfl (by decide) fun a19 hF19 => ?_
  refine sq (v := (.string ⟨(sealS k nonce h d).toArray⟩)) hF19 (wantedS rfl) (run_mv rfl (hF19.ev 9 rfl)) rfl (by decide) fun a20 hF20 => ?_
  refine sqC (v := (.tuple #[(.string ⟨d.toArray⟩), (.int .i64 0)])) hF20 hM3 (wantedS rfl) (run_call rfl Tryd.func14 (by kernel_rfl) rfl (mapE3 (hF20.ev 27 rfl) (hF20.ev 28 rfl) (hF20.ev 29 rfl))) rfl (by decide) (sopen_sealed k nonce h d w3 (HG.below hM3.below) hLk hLnonce (by omega)) fun a21 w4 hb4 hF21 hM4 => ?_
  refine sq (v := (.tuple #[(.string ⟨d.toArray⟩), (.int .i64 0)])) hF21 (wantedS rfl) (run_mv rfl (hF21.ev 30 rfl)) rfl (by decide) fun a22 hF22 => ?_
  refine sq (v := (.string ⟨d.toArray⟩)) hF22 (wantedS rfl) (run_ext rfl (hF22.ev 26 rfl) rfl) rfl (by decide) fun a23 hF23 => ?_
  refine sq (v := (.int .i64 0)) hF23 (wantedS rfl) (run_ext rfl (hF23.ev 26 rfl) rfl) rfl (by decide) fun a24 hF24 => ?_
  refine sq (v := (.string ⟨d.toArray⟩)) hF24 (wantedS rfl) (run_as rfl (hF24.ev 31 rfl)) rfl (by decide) fun a25 hF25 => ?_
  refine sq (v := (.int .i64 0)) hF25 (wantedS rfl) (run_as rfl (hF25.ev 32 rfl)) rfl (by decide) fun a26 hF26 => ?_
  refine sqEnd ?_
  clear hF17 hF18 hF19 hF20 hF21 hF22 hF23 hF24 hF25 hM3
  refine nx ?_
  refine wp_seq ?_
  refine wp_region_lit ?_
  refine sq (v := (.string ⟨(sealS k nonce h d).toArray⟩)) hF26 (wantedS rfl) (run_mv rfl (hF26.ev 9 rfl)) rfl (by decide) fun a27 hF27 => ?_
  refine sq (v := (.agg (cells8 k))) hF27 (wantedS rfl) (run_ldB rfl (hF27.ev 4 rfl) (hM4.at 1 rfl) Tryd.underlying23 rfl sz32k (szOf hLk)) rfl (by decide) fun a28 hF28 => ?_
  refine sq (v := (.agg (cells8 nonce))) hF28 (wantedS rfl) (run_ldB rfl (hF28.ev 5 rfl) (hM4.at 0 rfl) Tryd.underlying24 rfl sz12q (szOf hLnonce)) rfl (by decide) fun a29 hF29 => ?_
  refine sq (v := (.string ⟨h.toArray⟩)) hF29 (wantedS rfl) (run_mv rfl (hF29.ev 2 rfl)) rfl (by decide) fun a30 hF30 => ?_
  refine sq (v := (.string ⟨d.toArray⟩)) hF30 (wantedS rfl) (run_mv rfl (hF30.ev 3 rfl)) rfl (by decide) fun a31 hF31 => ?_
  refine sqC (v := (.string ⟨(sealS k nonce h d).toArray⟩)) hF31 hM4 (wantedS rfl) (run_call rfl Tryd.func15 (by kernel_rfl) rfl (mapE4 (hF31.ev 34 rfl) (hF31.ev 35 rfl) (hF31.ev 36 rfl) (hF31.ev 37 rfl))) rfl (by decide) (rseal_any k nonce h d w4 hLk hLnonce (by first | omega | decide | (simp; omega))) fun a32 w5 hb5 hF32 hM5 => ?_
  refine sq (v := (.bool true)) hF32 (wantedS rfl) (run_eqs rfl (hF32.ev 33 rfl) (hF32.ev 38 rfl) (beq_self_eq_true _)) rfl (by decide) fun a33 hF33 => ?_
  refine sq (v := (.bool true)) hF33 (wantedS rfl) (run_mv rfl (hF33.ev 39 rfl)) rfl (by decide) fun a34 hF34 => ?_
  refine sq (v := (.string ⟨(sealS k nonce h d).toArray⟩)) hF34 (wantedG hF34 rfl rfl rfl rfl rfl) (run_mv rfl (hF34.ev 9 rfl)) rfl (by decide) fun a35 hF35 => ?_
  refine sq (v := (.int .i64 ((sealS k nonce h d).length : Int))) hF35 (wantedG hF35 rfl rfl rfl rfl rfl) (run_len rfl (hF35.ev 41 rfl) rfl Tryd.underlying9) rfl (by decide) fun a36 hF36 => ?_
  refine sq (v := (.string ⟨d.toArray⟩)) hF36 (wantedG hF36 rfl rfl rfl rfl rfl) (run_mv rfl (hF36.ev 3 rfl)) rfl (by decide) fun a37 hF37 => ?_
  refine sq (v := (.int .i64 (d.length : Int))) hF37 (wantedG hF37 rfl rfl rfl rfl rfl) (run_len rfl (hF37.ev 43 rfl) rfl Tryd.underlying9) rfl (by decide) fun a38 hF38 => ?_
  refine sq (v := (.int .i64 ((d.length : Int) + 44))) hF38 (wantedG hF38 rfl rfl rfl rfl rfl) (run_add (r := (d.length : Int) + 44) rfl (hF38.ev 44 rfl) rfl (by rw [IntKind.wrap_i64]; omega)) rfl (by decide) fun a39 hF39 => ?_
  refine sq (v := (.bool true)) hF39 (wantedG hF39 rfl rfl rfl rfl rfl) (run_eqi rfl (hF39.ev 42 rfl) (hF39.ev 45 rfl) (beq_iff_eq.2 (by omega))) rfl (by decide) fun a40 hF40 => ?_
  refine sq (v := (.bool true)) hF40 (wantedS rfl) (run_pick rfl (hF40.ev 40 rfl) (hF40.ev 46 rfl) rfl) rfl (by decide) fun a41 hF41 => ?_
  refine sq (v := (.bool true)) hF41 (wantedS rfl) (run_mv rfl (hF41.ev 47 rfl)) rfl (by decide) fun a42 hF42 => ?_
  refine sq (v := (.string ⟨d.toArray⟩)) hF42 (wantedG hF42 rfl rfl rfl rfl rfl) (run_mv rfl (hF42.ev 10 rfl)) rfl (by decide) fun a43 hF43 => ?_
  refine sq (v := (.string ⟨d.toArray⟩)) hF43 (wantedG hF43 rfl rfl rfl rfl rfl) (run_mv rfl (hF43.ev 3 rfl)) rfl (by decide) fun a44 hF44 => ?_
  refine sq (v := (.bool true)) hF44 (wantedG hF44 rfl rfl rfl rfl rfl) (run_eqs rfl (hF44.ev 49 rfl) (hF44.ev 50 rfl) (beq_self_eq_true _)) rfl (by decide) fun a45 hF45 => ?_
  refine sq (v := (.bool true)) hF45 (wantedS rfl) (run_pick rfl (hF45.ev 48 rfl) (hF45.ev 51 rfl) rfl) rfl (by decide) fun a46 hF46 => ?_
  refine sq (v := (.bool true)) hF46 (wantedS rfl) (run_mv rfl (hF46.ev 52 rfl)) rfl (by decide) fun a47 hF47 => ?_
  refine sq (v := (.int .i64 0)) hF47 (wantedG hF47 rfl rfl rfl rfl rfl) (run_mv rfl (hF47.ev 11 rfl)) rfl (by decide) fun a48 hF48 => ?_
  refine sq (v := (.bool true)) hF48 (wantedG hF48 rfl rfl rfl rfl rfl) (run_eqi rfl (hF48.ev 54 rfl) rfl (beq_self_eq_true _)) rfl (by decide) fun a49 hF49 => ?_
  refine sq (v := (.bool true)) hF49 (wantedS rfl) (run_pick rfl (hF49.ev 53 rfl) (hF49.ev 55 rfl) rfl) rfl (by decide) fun a50 hF50 => ?_
  refine sq (v := (.bool true)) hF50 (wantedS rfl) (run_mv rfl (hF50.ev 56 rfl)) rfl (by decide) fun a51 hF51 => ?_
  refine sqC (v := (.bool true)) hF51 hM5 (wantedG hF51 rfl rfl rfl rfl rfl) (run_call rfl Tryd.func12 (by kernel_rfl) rfl (mapE0 )) rfl (by decide) (awake_any w5 (HG.below hM5.below)) fun a52 w6 hb6 hF52 hM6 => ?_
  refine sq (v := (.bool true)) hF52 (wantedS rfl) (run_pick rfl (hF52.ev 57 rfl) (hF52.ev 58 rfl) rfl) rfl (by decide) fun a53 hF53 => ?_
  refine sq (v := (.bool true)) hF53 (wantedS rfl) (run_as rfl (hF53.ev 59 rfl)) rfl (by decide) fun a54 hF54 => ?_
  refine sqEnd ?_
  clear hF26 hF27 hF28 hF29 hF30 hF31 hF32 hF33 hF34 hF35 hF36 hF37 hF38 hF39 hF40 hF41 hF42 hF43 hF44 hF45 hF46 hF47 hF48 hF49 hF50 hF51 hF52 hF53 hM4 hM5
  refine nx ?_
  refine wp_ret ?_
  exact ret1 hF54 rfl rfl ⟨rfl, hM6.below⟩
end Go.Proofs.YtnkklogkjnfjgaaDoor
