/- The walk of the law SealBent. Printed by gen_slaw5.py. -/
import Derived.Test.YtnkklogkjnfjgaaDoorSealLaw4
import Derived.Test.YtnkklogkjnfjgaaDoorByt
namespace Go.Proofs.YtnkklogkjnfjgaaDoor
open Go.RowKit

attribute [local simp] xorS_len tagS_len keyedS_len nonceS_len
theorem openS_long (k h x : List UInt8) (hx : ¬ x.length < 44) (hn : (openS k h x).2 ≠ 0) : (openS k h x).2 = 5 := by
  by_cases ht : tagS k h (x.take (x.length - 32)) = x.drop (x.length - 32)
  · rw [openS_ok k h x hx ht] at hn; exact absurd rfl hn
  · rw [openS_bent k h x hx ht]
set_option maxRecDepth 100000 in
set_option maxHeartbeats 1000000 in
theorem lawBent_any (k nonce h d : List UInt8) (q : Nat) (y : UInt8) (o : List UInt8) (w : World) (HG : Glob w) (hLk : k.length = 32) (hLnonce : nonce.length = 12) (hh : h.length ≤ maxLen) (hd : d.length ≤ maxLen) (hq : q < 65536) (ho : o.length ≤ maxLen) :
    Calls Tryd.prog 5 #[.agg (cells8 k), .agg (cells8 nonce), .string ⟨h.toArray⟩, .string ⟨d.toArray⟩, .int .u16 (q : Int), .int .u8 (y.toNat : Int), .string ⟨o.toArray⟩] w fun e w' => e = .returned (.bool true) ∧ Below w.heap.size w w' := by
  unfold maxLen at *
  by_cases h1 : 300 < h.length
  · skip
    refine walk_enter Tryd.func5 rfl rfl rfl fun a0 hF0 => ?_
    have hM0 := Mem.new w
    refine wp_seq ?_
    refine wp_region_lit ?_
    refine sqNew (cs := (cells8 k)) (t := 23) hF0 hM0 (wantedS rfl) (run_box rfl (hF0.ev 0 rfl)) rfl (by decide) fun g0 a1 w1 hgg0 hb1 hF1 hM1 => ?_
    refine sqNew (cs := (cells8 nonce)) (t := 24) hF1 hM1 (wantedS rfl) (run_box rfl (hF1.ev 1 rfl)) rfl (by decide) fun g1 a2 w2 hgg1 hb2 hF2 hM2 => ?_
    refine sq (v := (.bool false)) hF2 (wantedS rfl) (run_as rfl rfl) rfl (by decide) fun a3 hF3 => ?_
    refine sqEnd ?_
    clear hF0 hF1 hF2 hM0 hM1
    refine nx ?_
    refine wp_seq ?_
    refine wp_seq ?_
    refine wp_region_lit ?_
    refine sq (v := (.string ⟨h.toArray⟩)) hF3 (wantedS rfl) (run_mv rfl (hF3.ev 2 rfl)) rfl (by decide) fun a4 hF4 => ?_
    refine sq (v := (.int .i64 (h.length : Int))) hF4 (wantedS rfl) (run_len rfl (hF4.ev 32 rfl) rfl Tryd.underlying9) rfl (by decide) fun a5 hF5 => ?_
    refine sq (v := (.bool true)) hF5 (wantedS rfl) (run_gtr rfl (hF5.ev 33 rfl) rfl (decide_eq_true (by omega))) rfl (by decide) fun a6 hF6 => ?_
    refine sq (v := (.bool true)) hF6 (wantedS rfl) (run_mv rfl (hF6.ev 34 rfl)) rfl (by decide) fun a7 hF7 => ?_
    refine sqSkip hF7 (unwantedG hF7 rfl rfl rfl rfl rfl) rfl (by decide) fun a8 hF8 => ?_
    refine sqSkip hF8 (unwantedG hF8 rfl rfl rfl rfl rfl) rfl (by decide) fun a9 hF9 => ?_
    refine sqSkip hF9 (unwantedG hF9 rfl rfl rfl rfl rfl) rfl (by decide) fun a10 hF10 => ?_
    refine sq (v := (.bool true)) hF10 (wantedS rfl) (run_pick rfl (hF10.ev 35 rfl) rfl (hF10.ev 38 rfl)) rfl (by decide) fun a11 hF11 => ?_
    refine sq (v := (.bool true)) hF11 (wantedS rfl) (run_mv rfl (hF11.ev 39 rfl)) rfl (by decide) fun a12 hF12 => ?_
    refine sqSkip hF12 (unwantedG hF12 rfl rfl rfl rfl rfl) rfl (by decide) fun a13 hF13 => ?_
    refine sqSkip hF13 (unwantedG hF13 rfl rfl rfl rfl rfl) rfl (by decide) fun a14 hF14 => ?_
    refine sqSkip hF14 (unwantedG hF14 rfl rfl rfl rfl rfl) rfl (by decide) fun a15 hF15 => ?_
    refine sq (v := (.bool true)) hF15 (wantedS rfl) (run_pick rfl (hF15.ev 40 rfl) rfl (hF15.ev 43 rfl)) rfl (by decide) fun a16 hF16 => ?_
    refine sq (v := (.bool true)) hF16 (wantedS rfl) (run_mv rfl (hF16.ev 44 rfl)) rfl (by decide) fun a17 hF17 => ?_
    refine sqSkip hF17 (unwantedG hF17 rfl rfl rfl rfl rfl) rfl (by decide) fun a18 hF18 => ?_
    refine sqSkip hF18 (unwantedG hF18 rfl rfl rfl rfl rfl) rfl (by decide) fun a19 hF19 => ?_
    refine sq (v := (.bool true)) hF19 (wantedS rfl) (run_pick rfl (hF19.ev 45 rfl) rfl (hF19.ev 47 rfl)) rfl (by decide) fun a20 hF20 => ?_
    refine sqEnd ?_
    clear hF3 hF4 hF5 hF6 hF7 hF8 hF9 hF10 hF11 hF12 hF13 hF14 hF15 hF16 hF17 hF18 hF19
    refine nx ?_
    refine wp_cond_true (hF20.ev 48 rfl) ?_
    refine wp_seq ?_
    refine wp_region_lit ?_
    refine sqC (v := (.bool true)) hF20 hM2 (wantedS rfl) (run_call rfl Tryd.func12 (by kernel_rfl) rfl (mapE0 )) rfl (by decide) (awake_any w2 (HG.below hM2.below)) fun a21 w3 hb3 hF21 hM3 => ?_
    refine sq (v := (.bool true)) hF21 (wantedS rfl) (run_as rfl (hF21.ev 49 rfl)) rfl (by decide) fun a22 hF22 => ?_
    refine sqEnd ?_
    clear hF20 hF21 hM2
    refine nx ?_
    refine wp_ret ?_
    refine nxRet ?_
    exact ret1 hF22 rfl rfl ⟨rfl, hM3.below⟩
  by_cases h2 : 300 < d.length
  · skip
    refine walk_enter Tryd.func5 rfl rfl rfl fun a0 hF0 => ?_
    have hM0 := Mem.new w
    refine wp_seq ?_
    refine wp_region_lit ?_
    refine sqNew (cs := (cells8 k)) (t := 23) hF0 hM0 (wantedS rfl) (run_box rfl (hF0.ev 0 rfl)) rfl (by decide) fun g0 a1 w1 hgg0 hb1 hF1 hM1 => ?_
    refine sqNew (cs := (cells8 nonce)) (t := 24) hF1 hM1 (wantedS rfl) (run_box rfl (hF1.ev 1 rfl)) rfl (by decide) fun g1 a2 w2 hgg1 hb2 hF2 hM2 => ?_
    refine sq (v := (.bool false)) hF2 (wantedS rfl) (run_as rfl rfl) rfl (by decide) fun a3 hF3 => ?_
    refine sqEnd ?_
    clear hF0 hF1 hF2 hM0 hM1
    refine nx ?_
    refine wp_seq ?_
    refine wp_seq ?_
    refine wp_region_lit ?_
    refine sq (v := (.string ⟨h.toArray⟩)) hF3 (wantedS rfl) (run_mv rfl (hF3.ev 2 rfl)) rfl (by decide) fun a4 hF4 => ?_
    refine sq (v := (.int .i64 (h.length : Int))) hF4 (wantedS rfl) (run_len rfl (hF4.ev 32 rfl) rfl Tryd.underlying9) rfl (by decide) fun a5 hF5 => ?_
    refine sq (v := (.bool false)) hF5 (wantedS rfl) (run_gtr rfl (hF5.ev 33 rfl) rfl (decide_eq_false (by omega))) rfl (by decide) fun a6 hF6 => ?_
    refine sq (v := (.bool false)) hF6 (wantedS rfl) (run_mv rfl (hF6.ev 34 rfl)) rfl (by decide) fun a7 hF7 => ?_
    refine sq (v := (.string ⟨d.toArray⟩)) hF7 (wantedG hF7 rfl rfl rfl rfl rfl) (run_mv rfl (hF7.ev 3 rfl)) rfl (by decide) fun a8 hF8 => ?_
    refine sq (v := (.int .i64 (d.length : Int))) hF8 (wantedG hF8 rfl rfl rfl rfl rfl) (run_len rfl (hF8.ev 36 rfl) rfl Tryd.underlying9) rfl (by decide) fun a9 hF9 => ?_
    refine sq (v := (.bool true)) hF9 (wantedG hF9 rfl rfl rfl rfl rfl) (run_gtr rfl (hF9.ev 37 rfl) rfl (decide_eq_true (by omega))) rfl (by decide) fun a10 hF10 => ?_
    refine sq (v := (.bool true)) hF10 (wantedS rfl) (run_pick rfl (hF10.ev 35 rfl) rfl (hF10.ev 38 rfl)) rfl (by decide) fun a11 hF11 => ?_
    refine sq (v := (.bool true)) hF11 (wantedS rfl) (run_mv rfl (hF11.ev 39 rfl)) rfl (by decide) fun a12 hF12 => ?_
    refine sqSkip hF12 (unwantedG hF12 rfl rfl rfl rfl rfl) rfl (by decide) fun a13 hF13 => ?_
    refine sqSkip hF13 (unwantedG hF13 rfl rfl rfl rfl rfl) rfl (by decide) fun a14 hF14 => ?_
    refine sqSkip hF14 (unwantedG hF14 rfl rfl rfl rfl rfl) rfl (by decide) fun a15 hF15 => ?_
    refine sq (v := (.bool true)) hF15 (wantedS rfl) (run_pick rfl (hF15.ev 40 rfl) rfl (hF15.ev 43 rfl)) rfl (by decide) fun a16 hF16 => ?_
    refine sq (v := (.bool true)) hF16 (wantedS rfl) (run_mv rfl (hF16.ev 44 rfl)) rfl (by decide) fun a17 hF17 => ?_
    refine sqSkip hF17 (unwantedG hF17 rfl rfl rfl rfl rfl) rfl (by decide) fun a18 hF18 => ?_
    refine sqSkip hF18 (unwantedG hF18 rfl rfl rfl rfl rfl) rfl (by decide) fun a19 hF19 => ?_
    refine sq (v := (.bool true)) hF19 (wantedS rfl) (run_pick rfl (hF19.ev 45 rfl) rfl (hF19.ev 47 rfl)) rfl (by decide) fun a20 hF20 => ?_
    refine sqEnd ?_
    clear hF3 hF4 hF5 hF6 hF7 hF8 hF9 hF10 hF11 hF12 hF13 hF14 hF15 hF16 hF17 hF18 hF19
    refine nx ?_
    refine wp_cond_true (hF20.ev 48 rfl) ?_
    refine wp_seq ?_
    refine wp_region_lit ?_
    refine sqC (v := (.bool true)) hF20 hM2 (wantedS rfl) (run_call rfl Tryd.func12 (by kernel_rfl) rfl (mapE0 )) rfl (by decide) (awake_any w2 (HG.below hM2.below)) fun a21 w3 hb3 hF21 hM3 => ?_
    refine sq (v := (.bool true)) hF21 (wantedS rfl) (run_as rfl (hF21.ev 49 rfl)) rfl (by decide) fun a22 hF22 => ?_
    refine sqEnd ?_
    clear hF20 hF21 hM2
    refine nx ?_
    refine wp_ret ?_
    refine nxRet ?_
    exact ret1 hF22 rfl rfl ⟨rfl, hM3.below⟩
  by_cases h3 : 300 < o.length
  · skip
    refine walk_enter Tryd.func5 rfl rfl rfl fun a0 hF0 => ?_
    have hM0 := Mem.new w
    refine wp_seq ?_
    refine wp_region_lit ?_
    refine sqNew (cs := (cells8 k)) (t := 23) hF0 hM0 (wantedS rfl) (run_box rfl (hF0.ev 0 rfl)) rfl (by decide) fun g0 a1 w1 hgg0 hb1 hF1 hM1 => ?_
    refine sqNew (cs := (cells8 nonce)) (t := 24) hF1 hM1 (wantedS rfl) (run_box rfl (hF1.ev 1 rfl)) rfl (by decide) fun g1 a2 w2 hgg1 hb2 hF2 hM2 => ?_
    refine sq (v := (.bool false)) hF2 (wantedS rfl) (run_as rfl rfl) rfl (by decide) fun a3 hF3 => ?_
    refine sqEnd ?_
    clear hF0 hF1 hF2 hM0 hM1
    refine nx ?_
    refine wp_seq ?_
    refine wp_seq ?_
    refine wp_region_lit ?_
    refine sq (v := (.string ⟨h.toArray⟩)) hF3 (wantedS rfl) (run_mv rfl (hF3.ev 2 rfl)) rfl (by decide) fun a4 hF4 => ?_
    refine sq (v := (.int .i64 (h.length : Int))) hF4 (wantedS rfl) (run_len rfl (hF4.ev 32 rfl) rfl Tryd.underlying9) rfl (by decide) fun a5 hF5 => ?_
    refine sq (v := (.bool false)) hF5 (wantedS rfl) (run_gtr rfl (hF5.ev 33 rfl) rfl (decide_eq_false (by omega))) rfl (by decide) fun a6 hF6 => ?_
    refine sq (v := (.bool false)) hF6 (wantedS rfl) (run_mv rfl (hF6.ev 34 rfl)) rfl (by decide) fun a7 hF7 => ?_
    refine sq (v := (.string ⟨d.toArray⟩)) hF7 (wantedG hF7 rfl rfl rfl rfl rfl) (run_mv rfl (hF7.ev 3 rfl)) rfl (by decide) fun a8 hF8 => ?_
    refine sq (v := (.int .i64 (d.length : Int))) hF8 (wantedG hF8 rfl rfl rfl rfl rfl) (run_len rfl (hF8.ev 36 rfl) rfl Tryd.underlying9) rfl (by decide) fun a9 hF9 => ?_
    refine sq (v := (.bool false)) hF9 (wantedG hF9 rfl rfl rfl rfl rfl) (run_gtr rfl (hF9.ev 37 rfl) rfl (decide_eq_false (by omega))) rfl (by decide) fun a10 hF10 => ?_
    refine sq (v := (.bool false)) hF10 (wantedS rfl) (run_pick rfl (hF10.ev 35 rfl) rfl (hF10.ev 38 rfl)) rfl (by decide) fun a11 hF11 => ?_
    refine sq (v := (.bool false)) hF11 (wantedS rfl) (run_mv rfl (hF11.ev 39 rfl)) rfl (by decide) fun a12 hF12 => ?_
    refine sq (v := (.string ⟨o.toArray⟩)) hF12 (wantedG hF12 rfl rfl rfl rfl rfl) (run_mv rfl (hF12.ev 6 rfl)) rfl (by decide) fun a13 hF13 => ?_
    refine sq (v := (.int .i64 (o.length : Int))) hF13 (wantedG hF13 rfl rfl rfl rfl rfl) (run_len rfl (hF13.ev 41 rfl) rfl Tryd.underlying9) rfl (by decide) fun a14 hF14 => ?_
    refine sq (v := (.bool true)) hF14 (wantedG hF14 rfl rfl rfl rfl rfl) (run_gtr rfl (hF14.ev 42 rfl) rfl (decide_eq_true (by omega))) rfl (by decide) fun a15 hF15 => ?_
    refine sq (v := (.bool true)) hF15 (wantedS rfl) (run_pick rfl (hF15.ev 40 rfl) rfl (hF15.ev 43 rfl)) rfl (by decide) fun a16 hF16 => ?_
    refine sq (v := (.bool true)) hF16 (wantedS rfl) (run_mv rfl (hF16.ev 44 rfl)) rfl (by decide) fun a17 hF17 => ?_
    refine sqSkip hF17 (unwantedG hF17 rfl rfl rfl rfl rfl) rfl (by decide) fun a18 hF18 => ?_
    refine sqSkip hF18 (unwantedG hF18 rfl rfl rfl rfl rfl) rfl (by decide) fun a19 hF19 => ?_
    refine sq (v := (.bool true)) hF19 (wantedS rfl) (run_pick rfl (hF19.ev 45 rfl) rfl (hF19.ev 47 rfl)) rfl (by decide) fun a20 hF20 => ?_
    refine sqEnd ?_
    clear hF3 hF4 hF5 hF6 hF7 hF8 hF9 hF10 hF11 hF12 hF13 hF14 hF15 hF16 hF17 hF18 hF19
    refine nx ?_
    refine wp_cond_true (hF20.ev 48 rfl) ?_
    refine wp_seq ?_
    refine wp_region_lit ?_
    refine sqC (v := (.bool true)) hF20 hM2 (wantedS rfl) (run_call rfl Tryd.func12 (by kernel_rfl) rfl (mapE0 )) rfl (by decide) (awake_any w2 (HG.below hM2.below)) fun a21 w3 hb3 hF21 hM3 => ?_
    refine sq (v := (.bool true)) hF21 (wantedS rfl) (run_as rfl (hF21.ev 49 rfl)) rfl (by decide) fun a22 hF22 => ?_
    refine sqEnd ?_
    clear hF20 hF21 hM2
    refine nx ?_
    refine wp_ret ?_
    refine nxRet ?_
    exact ret1 hF22 rfl rfl ⟨rfl, hM3.below⟩
  by_cases h4 : y.toNat = 0
  · skip
    refine walk_enter Tryd.func5 rfl rfl rfl fun a0 hF0 => ?_
    have hM0 := Mem.new w
    refine wp_seq ?_
    refine wp_region_lit ?_
    refine sqNew (cs := (cells8 k)) (t := 23) hF0 hM0 (wantedS rfl) (run_box rfl (hF0.ev 0 rfl)) rfl (by decide) fun g0 a1 w1 hgg0 hb1 hF1 hM1 => ?_
    refine sqNew (cs := (cells8 nonce)) (t := 24) hF1 hM1 (wantedS rfl) (run_box rfl (hF1.ev 1 rfl)) rfl (by decide) fun g1 a2 w2 hgg1 hb2 hF2 hM2 => ?_
    refine sq (v := (.bool false)) hF2 (wantedS rfl) (run_as rfl rfl) rfl (by decide) fun a3 hF3 => ?_
    refine sqEnd ?_
    clear hF0 hF1 hF2 hM0 hM1
    refine nx ?_
    refine wp_seq ?_
    refine wp_seq ?_
    refine wp_region_lit ?_
    refine sq (v := (.string ⟨h.toArray⟩)) hF3 (wantedS rfl) (run_mv rfl (hF3.ev 2 rfl)) rfl (by decide) fun a4 hF4 => ?_
    refine sq (v := (.int .i64 (h.length : Int))) hF4 (wantedS rfl) (run_len rfl (hF4.ev 32 rfl) rfl Tryd.underlying9) rfl (by decide) fun a5 hF5 => ?_
    refine sq (v := (.bool false)) hF5 (wantedS rfl) (run_gtr rfl (hF5.ev 33 rfl) rfl (decide_eq_false (by omega))) rfl (by decide) fun a6 hF6 => ?_
    refine sq (v := (.bool false)) hF6 (wantedS rfl) (run_mv rfl (hF6.ev 34 rfl)) rfl (by decide) fun a7 hF7 => ?_
    refine sq (v := (.string ⟨d.toArray⟩)) hF7 (wantedG hF7 rfl rfl rfl rfl rfl) (run_mv rfl (hF7.ev 3 rfl)) rfl (by decide) fun a8 hF8 => ?_
    refine sq (v := (.int .i64 (d.length : Int))) hF8 (wantedG hF8 rfl rfl rfl rfl rfl) (run_len rfl (hF8.ev 36 rfl) rfl Tryd.underlying9) rfl (by decide) fun a9 hF9 => ?_
    refine sq (v := (.bool false)) hF9 (wantedG hF9 rfl rfl rfl rfl rfl) (run_gtr rfl (hF9.ev 37 rfl) rfl (decide_eq_false (by omega))) rfl (by decide) fun a10 hF10 => ?_
    refine sq (v := (.bool false)) hF10 (wantedS rfl) (run_pick rfl (hF10.ev 35 rfl) rfl (hF10.ev 38 rfl)) rfl (by decide) fun a11 hF11 => ?_
    refine sq (v := (.bool false)) hF11 (wantedS rfl) (run_mv rfl (hF11.ev 39 rfl)) rfl (by decide) fun a12 hF12 => ?_
    refine sq (v := (.string ⟨o.toArray⟩)) hF12 (wantedG hF12 rfl rfl rfl rfl rfl) (run_mv rfl (hF12.ev 6 rfl)) rfl (by decide) fun a13 hF13 => ?_
    refine sq (v := (.int .i64 (o.length : Int))) hF13 (wantedG hF13 rfl rfl rfl rfl rfl) (run_len rfl (hF13.ev 41 rfl) rfl Tryd.underlying9) rfl (by decide) fun a14 hF14 => ?_
    refine sq (v := (.bool false)) hF14 (wantedG hF14 rfl rfl rfl rfl rfl) (run_gtr rfl (hF14.ev 42 rfl) rfl (decide_eq_false (by omega))) rfl (by decide) fun a15 hF15 => ?_
    refine sq (v := (.bool false)) hF15 (wantedS rfl) (run_pick rfl (hF15.ev 40 rfl) rfl (hF15.ev 43 rfl)) rfl (by decide) fun a16 hF16 => ?_
    refine sq (v := (.bool false)) hF16 (wantedS rfl) (run_mv rfl (hF16.ev 44 rfl)) rfl (by decide) fun a17 hF17 => ?_
    refine sq (v := (.int .u8 (y.toNat : Int))) hF17 (wantedG hF17 rfl rfl rfl rfl rfl) (run_mv rfl (hF17.ev 5 rfl)) rfl (by decide) fun a18 hF18 => ?_
    refine sq (v := (.bool true)) hF18 (wantedG hF18 rfl rfl rfl rfl rfl) (run_eqi rfl (hF18.ev 46 rfl) rfl (beq_iff_eq.2 (by omega))) rfl (by decide) fun a19 hF19 => ?_
    refine sq (v := (.bool true)) hF19 (wantedS rfl) (run_pick rfl (hF19.ev 45 rfl) rfl (hF19.ev 47 rfl)) rfl (by decide) fun a20 hF20 => ?_
    refine sqEnd ?_
    clear hF3 hF4 hF5 hF6 hF7 hF8 hF9 hF10 hF11 hF12 hF13 hF14 hF15 hF16 hF17 hF18 hF19
    refine nx ?_
    refine wp_cond_true (hF20.ev 48 rfl) ?_
    refine wp_seq ?_
    refine wp_region_lit ?_
    refine sqC (v := (.bool true)) hF20 hM2 (wantedS rfl) (run_call rfl Tryd.func12 (by kernel_rfl) rfl (mapE0 )) rfl (by decide) (awake_any w2 (HG.below hM2.below)) fun a21 w3 hb3 hF21 hM3 => ?_
    refine sq (v := (.bool true)) hF21 (wantedS rfl) (run_as rfl (hF21.ev 49 rfl)) rfl (by decide) fun a22 hF22 => ?_
    refine sqEnd ?_
    clear hF20 hF21 hM2
    refine nx ?_
    refine wp_ret ?_
    refine nxRet ?_
    exact ret1 hF22 rfl rfl ⟨rfl, hM3.below⟩
  obtain ⟨S, hS⟩ : ∃ S, sealS k nonce h d = S := ⟨_, rfl⟩
  have hsl : S.length = d.length + 44 := by rw [← hS]; exact sealS_len k nonce h d hLnonce
  obtain ⟨n, hn⟩ : ∃ n, q % S.length = n := ⟨_, rfl⟩
  have hnl : n < S.length := by rw [← hn]; exact Nat.mod_lt _ (by omega)
  have hbl : (S.set n (bt S n ^^^ y)).length = S.length := List.length_set ..
  have hcl : (S.take n).length = n := by rw [List.length_take]; omega
  have hso : openS k h S = (d, 0) := by rw [← hS]; exact openS_seal k nonce h d hLnonce
  refine walk_enter Tryd.func5 rfl rfl rfl fun a0 hF0 => ?_
  have hM0 := Mem.new w
  refine wp_seq ?_
  refine wp_region_lit ?_
  refine sqNew (cs := (cells8 k)) (t := 23) hF0 hM0 (wantedS rfl) (run_box rfl (hF0.ev 0 rfl)) rfl (by decide) fun g0 a1 w1 hgg0 hb1 hF1 hM1 => ?_
  refine sqNew (cs := (cells8 nonce)) (t := 24) hF1 hM1 (wantedS rfl) (run_box rfl (hF1.ev 1 rfl)) rfl (by decide) fun g1 a2 w2 hgg1 hb2 hF2 hM2 => ?_
  refine sq (v := (.bool false)) hF2 (wantedS rfl) (run_as rfl rfl) rfl (by decide) fun a3 hF3 => ?_
  refine sqEnd ?_
  clear hF0 hF1 hF2 hM0 hM1
  refine nx ?_
  refine wp_seq ?_
  refine wp_seq ?_
  refine wp_region_lit ?_
  refine sq (v := (.string ⟨h.toArray⟩)) hF3 (wantedS rfl) (run_mv rfl (hF3.ev 2 rfl)) rfl (by decide) fun a4 hF4 => ?_
  refine sq (v := (.int .i64 (h.length : Int))) hF4 (wantedS rfl) (run_len rfl (hF4.ev 32 rfl) rfl Tryd.underlying9) rfl (by decide) fun a5 hF5 => ?_
  refine sq (v := (.bool false)) hF5 (wantedS rfl) (run_gtr rfl (hF5.ev 33 rfl) rfl (decide_eq_false (by omega))) rfl (by decide) fun a6 hF6 => ?_
  refine sq (v := (.bool false)) hF6 (wantedS rfl) (run_mv rfl (hF6.ev 34 rfl)) rfl (by decide) fun a7 hF7 => ?_
  refine sq (v := (.string ⟨d.toArray⟩)) hF7 (wantedG hF7 rfl rfl rfl rfl rfl) (run_mv rfl (hF7.ev 3 rfl)) rfl (by decide) fun a8 hF8 => ?_
  refine sq (v := (.int .i64 (d.length : Int))) hF8 (wantedG hF8 rfl rfl rfl rfl rfl) (run_len rfl (hF8.ev 36 rfl) rfl Tryd.underlying9) rfl (by decide) fun a9 hF9 => ?_
  refine sq (v := (.bool false)) hF9 (wantedG hF9 rfl rfl rfl rfl rfl) (run_gtr rfl (hF9.ev 37 rfl) rfl (decide_eq_false (by omega))) rfl (by decide) fun a10 hF10 => ?_
  refine sq (v := (.bool false)) hF10 (wantedS rfl) (run_pick rfl (hF10.ev 35 rfl) rfl (hF10.ev 38 rfl)) rfl (by decide) fun a11 hF11 => ?_
  refine sq (v := (.bool false)) hF11 (wantedS rfl) (run_mv rfl (hF11.ev 39 rfl)) rfl (by decide) fun a12 hF12 => ?_
  refine sq (v := (.string ⟨o.toArray⟩)) hF12 (wantedG hF12 rfl rfl rfl rfl rfl) (run_mv rfl (hF12.ev 6 rfl)) rfl (by decide) fun a13 hF13 => ?_
  refine sq (v := (.int .i64 (o.length : Int))) hF13 (wantedG hF13 rfl rfl rfl rfl rfl) (run_len rfl (hF13.ev 41 rfl) rfl Tryd.underlying9) rfl (by decide) fun a14 hF14 => ?_
  refine sq (v := (.bool false)) hF14 (wantedG hF14 rfl rfl rfl rfl rfl) (run_gtr rfl (hF14.ev 42 rfl) rfl (decide_eq_false (by omega))) rfl (by decide) fun a15 hF15 => ?_
  refine sq (v := (.bool false)) hF15 (wantedS rfl) (run_pick rfl (hF15.ev 40 rfl) rfl (hF15.ev 43 rfl)) rfl (by decide) fun a16 hF16 => ?_
  refine sq (v := (.bool false)) hF16 (wantedS rfl) (run_mv rfl (hF16.ev 44 rfl)) rfl (by decide) fun a17 hF17 => ?_
  refine sq (v := (.int .u8 (y.toNat : Int))) hF17 (wantedG hF17 rfl rfl rfl rfl rfl) (run_mv rfl (hF17.ev 5 rfl)) rfl (by decide) fun a18 hF18 => ?_
  refine sq (v := (.bool false)) hF18 (wantedG hF18 rfl rfl rfl rfl rfl) (run_eqi rfl (hF18.ev 46 rfl) rfl (beq_eq_false_iff_ne.2 (by omega))) rfl (by decide) fun a19 hF19 => ?_
  refine sq (v := (.bool false)) hF19 (wantedS rfl) (run_pick rfl (hF19.ev 45 rfl) rfl (hF19.ev 47 rfl)) rfl (by decide) fun a20 hF20 => ?_
  refine sqEnd ?_
  clear hF3 hF4 hF5 hF6 hF7 hF8 hF9 hF10 hF11 hF12 hF13 hF14 hF15 hF16 hF17 hF18 hF19
  refine nx ?_
  refine wp_cond_false (hF20.ev 48 rfl) ?_
  refine wp_skip ?_
  refine nx ?_
  refine wp_seq ?_
  refine wp_region_lit ?_
  refine sq (v := (.agg (cells8 k))) hF20 (wantedS rfl) (run_ldB rfl (hF20.ev 7 rfl) (hM2.at 1 rfl) Tryd.underlying23 rfl sz32k (szOf hLk)) rfl (by decide) fun a21 hF21 => ?_
  refine sq (v := (.agg (cells8 nonce))) hF21 (wantedS rfl) (run_ldB rfl (hF21.ev 8 rfl) (hM2.at 0 rfl) Tryd.underlying24 rfl sz12q (szOf hLnonce)) rfl (by decide) fun a22 hF22 => ?_
  refine sq (v := (.string ⟨h.toArray⟩)) hF22 (wantedS rfl) (run_mv rfl (hF22.ev 2 rfl)) rfl (by decide) fun a23 hF23 => ?_
  refine sq (v := (.string ⟨d.toArray⟩)) hF23 (wantedS rfl) (run_mv rfl (hF23.ev 3 rfl)) rfl (by decide) fun a24 hF24 => ?_
  refine sqC (v := (.string ⟨S.toArray⟩)) hF24 hM2 (wantedS rfl) (run_call rfl Tryd.func13 (by kernel_rfl) rfl (mapE4 (hF24.ev 50 rfl) (hF24.ev 51 rfl) (hF24.ev 52 rfl) (hF24.ev 53 rfl))) rfl (by decide) (by rw [← hS]; exact sseal_any k nonce h d w2 (HG.below hM2.below) hLk hLnonce (by omega)) fun a25 w3 hb3 hF25 hM3 => ?_
  refine sqBytesOf hF25 hM3 (wantedS rfl) rfl (hF25.ev 54 rfl) Tryd.underlying9 rfl (by decide) fun g2 c2 a26 w4 hgg2 hb4 hcc2 hF26 hM4 => ?_
  refine sq (v := (.slice (some ⟨g2, 0, none⟩) S.length c2)) hF26 (wantedS rfl) (run_as rfl (hF26.ev 55 rfl)) rfl (by decide) fun a27 hF27 => ?_
  refine sqEnd ?_
  clear hF20 hF21 hF22 hF23 hF24 hF25 hF26 hM2 hM3
  refine nx ?_
  refine wp_seq ?_
  refine wp_seq ?_
  refine wp_region_lit ?_
  refine sq (v := (.slice (some ⟨g2, 0, none⟩) S.length c2)) hF27 (wantedS rfl) (run_mv rfl (hF27.ev 15 rfl)) rfl (by decide) fun a28 hF28 => ?_
  refine sq (v := (.int .i64 (S.length : Int))) hF28 (wantedS rfl) (run_lenSl rfl (hF28.ev 56 rfl) rfl Tryd.underlying33) rfl (by decide) fun a29 hF29 => ?_
  refine sq (v := (.bool false)) hF29 (wantedS rfl) (run_eqi rfl (hF29.ev 57 rfl) rfl (beq_eq_false_iff_ne.2 (by omega))) rfl (by decide) fun a30 hF30 => ?_
  refine sqEnd ?_
  clear hF27 hF28 hF29
  refine nx ?_
  refine wp_cond_false (hF30.ev 58 rfl) ?_
  refine wp_skip ?_
  refine nx ?_
  refine wp_seq ?_
  refine wp_region_lit ?_
  refine sq (v := (.int .u16 (q : Int))) hF30 (wantedS rfl) (run_mv rfl (hF30.ev 4 rfl)) rfl (by decide) fun a31 hF31 => ?_
  refine sq (v := (.int .i64 (q : Int))) hF31 (wantedS rfl) (run_cvI (r := (q : Int)) rfl (hF31.ev 59 rfl) Tryd.underlying32 Tryd.underlying3 (by rw [IntKind.wrap_i64]; omega)) rfl (by decide) fun a32 hF32 => ?_
  refine sq (v := (.slice (some ⟨g2, 0, none⟩) S.length c2)) hF32 (wantedS rfl) (run_mv rfl (hF32.ev 15 rfl)) rfl (by decide) fun a33 hF33 => ?_
  refine sq (v := (.int .i64 (S.length : Int))) hF33 (wantedS rfl) (run_lenSl rfl (hF33.ev 61 rfl) rfl Tryd.underlying33) rfl (by decide) fun a34 hF34 => ?_
  refine sq (v := (.int .i64 (n : Int))) hF34 (wantedS rfl) (run_rem (r := (n : Int)) rfl (hF34.ev 60 rfl) (hF34.ev 62 rfl) (by omega) (by rw [Int.tmod_eq_emod_of_nonneg (by omega), ← hn]; rfl)) rfl (by decide) fun a35 hF35 => ?_
  refine sq (v := (.int .i64 (n : Int))) hF35 (wantedS rfl) (run_as rfl (hF35.ev 63 rfl)) rfl (by decide) fun a36 hF36 => ?_
  refine sqEnd ?_
  clear hF30 hF31 hF32 hF33 hF34 hF35
  refine nx ?_
  refine wp_seq ?_
  refine wp_region_lit ?_
  refine sq (v := (.slice (some ⟨g2, 0, none⟩) S.length c2)) hF36 (wantedS rfl) (run_mv rfl (hF36.ev 15 rfl)) rfl (by decide) fun a37 hF37 => ?_
  refine sq (v := (.int .i64 (n : Int))) hF37 (wantedS rfl) (run_mv rfl (hF37.ev 16 rfl)) rfl (by decide) fun a38 hF38 => ?_
  refine sq (v := (.slice (some ⟨g2, 0, none⟩) n c2)) hF38 (wantedS rfl) (run_toY (j := n) rfl (hF38.ev 64 rfl) (hF38.ev 65 rfl) rfl (by omega)) rfl (by decide) fun a39 hF39 => ?_
  refine sq (v := (.string ⟨(S.take n).toArray⟩)) hF39 (wantedS rfl) (run_cv rfl (hF39.ev 66 rfl) (run_strY (hM4.ob 0 rfl) (by omega))) rfl (by decide) fun a40 hF40 => ?_
  refine sq (v := (.string ⟨(S.take n).toArray⟩)) hF40 (wantedS rfl) (run_as rfl (hF40.ev 67 rfl)) rfl (by decide) fun a41 hF41 => ?_
  refine sqEnd ?_
  clear hF36 hF37 hF38 hF39 hF40
  refine nx ?_
  refine wp_seq ?_
  refine wp_region_lit ?_
  refine sq (v := (.slice (some ⟨g2, 0, none⟩) S.length c2)) hF41 (wantedS rfl) (run_mv rfl (hF41.ev 15 rfl)) rfl (by decide) fun a42 hF42 => ?_
  refine sq (v := (.int .i64 (n : Int))) hF42 (wantedS rfl) (run_mv rfl (hF42.ev 16 rfl)) rfl (by decide) fun a43 hF43 => ?_
  refine sq (v := (.pointer (some ⟨g2, n, none⟩))) hF43 (wantedS rfl) (run_idxY (i := n) rfl (hF43.ev 68 rfl) (hF43.ev 69 rfl) rfl (by omega)) rfl (by decide) fun a44 hF44 => ?_
  refine sq (v := (.int .u8 ((bt S n).toNat : Int))) hF44 (wantedS rfl) (run_ldC rfl (hF44.ev 70 rfl) (isY_cell (hM4.ob 0 rfl) (by omega)) (by kernel_rfl)) rfl (by decide) fun a45 hF45 => ?_
  refine sq (v := (.int .u8 (y.toNat : Int))) hF45 (wantedS rfl) (run_mv rfl (hF45.ev 5 rfl)) rfl (by decide) fun a46 hF46 => ?_
  refine sq (v := (.int .u8 (((bt S n) ^^^ y).toNat : Int))) hF46 (wantedS rfl) (run_xor8 rfl (hF46.ev 71 rfl) (hF46.ev 72 rfl)) rfl (by decide) fun a47 hF47 => ?_
  refine sq (v := (.pointer (some ⟨g2, n, none⟩))) hF47 (wantedS rfl) (run_idxY (i := n) rfl (hF47.ev 68 rfl) (hF47.ev 69 rfl) rfl (by omega)) rfl (by decide) fun a48 hF48 => ?_
  refine sqSetY (j := 0) hF48 hM4 rfl rfl rfl (hF48.ev 74 rfl) (hF48.ev 73 rfl) rfl (by omega) fun a49 w5 hF49 hM5 => ?_
  refine sqEnd ?_
  clear hF41 hF42 hF43 hF44 hF45 hF46 hF47 hF48 hM4
  refine nx ?_
  refine wp_seq ?_
  refine wp_region_lit ?_
  refine sq (v := (.slice (some ⟨g2, 0, none⟩) S.length c2)) hF49 (wantedS rfl) (run_mv rfl (hF49.ev 15 rfl)) rfl (by decide) fun a50 hF50 => ?_
  refine sq (v := (.string ⟨(S.set n (((bt S n) ^^^ y))).toArray⟩)) hF50 (wantedS rfl) (run_cv rfl (hF50.ev 75 rfl) (run_strYall (hM5.ob 0 rfl) (by simp))) rfl (by decide) fun a51 hF51 => ?_
  refine sq (v := (.string ⟨(S.set n (((bt S n) ^^^ y))).toArray⟩)) hF51 (wantedS rfl) (run_as rfl (hF51.ev 76 rfl)) rfl (by decide) fun a52 hF52 => ?_
  refine sqEnd ?_
  clear hF49 hF50 hF51
  refine nx ?_
  refine wp_seq ?_
  refine wp_region_lit ?_
  refine sq (v := (.agg (cells8 k))) hF52 (wantedS rfl) (run_ldB rfl (hF52.ev 7 rfl) (hM5.at 2 rfl) Tryd.underlying23 rfl sz32k (szOf hLk)) rfl (by decide) fun a53 hF53 => ?_
  refine sq (v := (.agg (cells8 nonce))) hF53 (wantedS rfl) (run_ldB rfl (hF53.ev 8 rfl) (hM5.at 1 rfl) Tryd.underlying24 rfl sz12q (szOf hLnonce)) rfl (by decide) fun a54 hF54 => ?_
  refine sq (v := (.string ⟨h.toArray⟩)) hF54 (wantedS rfl) (run_mv rfl (hF54.ev 2 rfl)) rfl (by decide) fun a55 hF55 => ?_
  refine sq (v := (.string ⟨d.toArray⟩)) hF55 (wantedS rfl) (run_mv rfl (hF55.ev 3 rfl)) rfl (by decide) fun a56 hF56 => ?_
  refine sqC (v := (.string ⟨S.toArray⟩)) hF56 hM5 (wantedS rfl) (run_call rfl Tryd.func13 (by kernel_rfl) rfl (mapE4 (hF56.ev 77 rfl) (hF56.ev 78 rfl) (hF56.ev 79 rfl) (hF56.ev 80 rfl))) rfl (by decide) (by rw [← hS]; exact sseal_any k nonce h d w5 (HG.below hM5.below) hLk hLnonce (by omega)) fun a57 w6 hb6 hF57 hM6 => ?_
  refine sq (v := (.string ⟨S.toArray⟩)) hF57 (wantedS rfl) (run_as rfl (hF57.ev 81 rfl)) rfl (by decide) fun a58 hF58 => ?_
  refine sqEnd ?_
  clear hF52 hF53 hF54 hF55 hF56 hF57 hM5
  refine nx ?_
  refine wp_seq ?_
  refine wp_seq ?_
  refine wp_region_lit ?_
  refine sq (v := (.agg (cells8 k))) hF58 (wantedS rfl) (run_ldB rfl (hF58.ev 7 rfl) (hM6.at 2 rfl) Tryd.underlying23 rfl sz32k (szOf hLk)) rfl (by decide) fun a59 hF59 => ?_
  refine sq (v := (.string ⟨h.toArray⟩)) hF59 (wantedS rfl) (run_mv rfl (hF59.ev 2 rfl)) rfl (by decide) fun a60 hF60 => ?_
  refine sq (v := (.string ⟨(S.set n (((bt S n) ^^^ y))).toArray⟩)) hF60 (wantedS rfl) (run_mv rfl (hF60.ev 18 rfl)) rfl (by decide) fun a61 hF61 => ?_
  refine sqC (v := (.tuple #[(.string ⟨((openS k h (S.set n (((bt S n) ^^^ y)))).1).toArray⟩), (.int .i64 ((openS k h (S.set n (((bt S n) ^^^ y)))).2))])) hF61 hM6 (wantedS rfl) (run_call rfl Tryd.func16 (by kernel_rfl) rfl (mapE3 (hF61.ev 83 rfl) (hF61.ev 84 rfl) (hF61.ev 85 rfl))) rfl (by decide) (ropen_any k h (S.set n (((bt S n) ^^^ y))) w6 hLk (by first | omega | decide | (simp; omega))) fun a62 w7 hb7 hF62 hM7 => ?_
  refine sq (v := (.tuple #[(.string ⟨((openS k h (S.set n (((bt S n) ^^^ y)))).1).toArray⟩), (.int .i64 ((openS k h (S.set n (((bt S n) ^^^ y)))).2))])) hF62 (wantedS rfl) (run_mv rfl (hF62.ev 86 rfl)) rfl (by decide) fun a63 hF63 => ?_
  refine sq (v := (.string ⟨((openS k h (S.set n (((bt S n) ^^^ y)))).1).toArray⟩)) hF63 (wantedS rfl) (run_ext rfl (hF63.ev 82 rfl) rfl) rfl (by decide) fun a64 hF64 => ?_
  refine sq (v := (.int .i64 ((openS k h (S.set n (((bt S n) ^^^ y)))).2))) hF64 (wantedS rfl) (run_ext rfl (hF64.ev 82 rfl) rfl) rfl (by decide) fun a65 hF65 => ?_
  refine sq (v := (.string ⟨((openS k h (S.set n (((bt S n) ^^^ y)))).1).toArray⟩)) hF65 (wantedS rfl) (run_as rfl (hF65.ev 87 rfl)) rfl (by decide) fun a66 hF66 => ?_
  refine sq (v := (.int .i64 ((openS k h (S.set n (((bt S n) ^^^ y)))).2))) hF66 (wantedS rfl) (run_as rfl (hF66.ev 88 rfl)) rfl (by decide) fun a67 hF67 => ?_
  refine sqEnd ?_
  clear hF58 hF59 hF60 hF61 hF62 hF63 hF64 hF65 hF66 hM6
  refine nx ?_
  refine wp_seq ?_
  by_cases hz1 : (openS k h (S.set n (bt S n ^^^ y))).2 = 0
  · skip
    refine wp_region_lit ?_
    refine sq (v := (.int .i64 ((openS k h (S.set n (((bt S n) ^^^ y)))).2))) hF67 (wantedS rfl) (run_mv rfl (hF67.ev 21 rfl)) rfl (by decide) fun a68 hF68 => ?_
    refine sq (v := (.bool false)) hF68 (wantedS rfl) (run_nei rfl (hF68.ev 89 rfl) rfl (by rw [bne_eq_false_iff_eq]; omega)) rfl (by decide) fun a69 hF69 => ?_
    refine sqEnd ?_
    clear hF67 hF68
    refine nx ?_
    refine wp_cond_false (hF69.ev 90 rfl) ?_
    refine wp_skip ?_
    refine nx ?_
    refine wp_seq ?_
    refine wp_seq ?_
    refine wp_region_lit ?_
    refine sq (v := (.agg (cells8 k))) hF69 (wantedS rfl) (run_ldB rfl (hF69.ev 7 rfl) (hM7.at 2 rfl) Tryd.underlying23 rfl sz32k (szOf hLk)) rfl (by decide) fun a70 hF70 => ?_
    refine sq (v := (.string ⟨h.toArray⟩)) hF70 (wantedS rfl) (run_mv rfl (hF70.ev 2 rfl)) rfl (by decide) fun a71 hF71 => ?_
    refine sq (v := (.string ⟨(S.take n).toArray⟩)) hF71 (wantedS rfl) (run_mv rfl (hF71.ev 17 rfl)) rfl (by decide) fun a72 hF72 => ?_
    refine sqC (v := (.tuple #[(.string ⟨((openS k h (S.take n)).1).toArray⟩), (.int .i64 ((openS k h (S.take n)).2))])) hF72 hM7 (wantedS rfl) (run_call rfl Tryd.func16 (by kernel_rfl) rfl (mapE3 (hF72.ev 105 rfl) (hF72.ev 106 rfl) (hF72.ev 107 rfl))) rfl (by decide) (ropen_any k h (S.take n) w7 hLk (by first | omega | decide | (simp; omega))) fun a73 w8 hb8 hF73 hM8 => ?_
    refine sq (v := (.tuple #[(.string ⟨((openS k h (S.take n)).1).toArray⟩), (.int .i64 ((openS k h (S.take n)).2))])) hF73 (wantedS rfl) (run_mv rfl (hF73.ev 108 rfl)) rfl (by decide) fun a74 hF74 => ?_
    refine sq (v := (.string ⟨((openS k h (S.take n)).1).toArray⟩)) hF74 (wantedS rfl) (run_ext rfl (hF74.ev 104 rfl) rfl) rfl (by decide) fun a75 hF75 => ?_
    refine sq (v := (.int .i64 ((openS k h (S.take n)).2))) hF75 (wantedS rfl) (run_ext rfl (hF75.ev 104 rfl) rfl) rfl (by decide) fun a76 hF76 => ?_
    refine sq (v := (.string ⟨((openS k h (S.take n)).1).toArray⟩)) hF76 (wantedS rfl) (run_as rfl (hF76.ev 109 rfl)) rfl (by decide) fun a77 hF77 => ?_
    refine sq (v := (.int .i64 ((openS k h (S.take n)).2))) hF77 (wantedS rfl) (run_as rfl (hF77.ev 110 rfl)) rfl (by decide) fun a78 hF78 => ?_
    refine sqEnd ?_
    clear hF69 hF70 hF71 hF72 hF73 hF74 hF75 hF76 hF77 hM7
    refine nx ?_
    refine wp_seq ?_
    by_cases hz2 : (openS k h (S.take n)).2 = 0
    · skip
      refine wp_region_lit ?_
      refine sq (v := (.int .i64 ((openS k h (S.take n)).2))) hF78 (wantedS rfl) (run_mv rfl (hF78.ev 25 rfl)) rfl (by decide) fun a79 hF79 => ?_
      refine sq (v := (.bool false)) hF79 (wantedS rfl) (run_nei rfl (hF79.ev 111 rfl) rfl (by rw [bne_eq_false_iff_eq]; omega)) rfl (by decide) fun a80 hF80 => ?_
      refine sqEnd ?_
      clear hF78 hF79
      refine nx ?_
      refine wp_cond_false (hF80.ev 112 rfl) ?_
      refine wp_skip ?_
      refine nx ?_
      refine wp_seq ?_
      refine wp_seq ?_
      refine wp_region_lit ?_
      refine sq (v := (.agg (cells8 k))) hF80 (wantedS rfl) (run_ldB rfl (hF80.ev 7 rfl) (hM8.at 2 rfl) Tryd.underlying23 rfl sz32k (szOf hLk)) rfl (by decide) fun a81 hF81 => ?_
      refine sq (v := (.string ⟨o.toArray⟩)) hF81 (wantedS rfl) (run_mv rfl (hF81.ev 6 rfl)) rfl (by decide) fun a82 hF82 => ?_
      refine sq (v := (.string ⟨S.toArray⟩)) hF82 (wantedS rfl) (run_mv rfl (hF82.ev 19 rfl)) rfl (by decide) fun a83 hF83 => ?_
      refine sqC (v := (.tuple #[(.string ⟨((openS k o S).1).toArray⟩), (.int .i64 ((openS k o S).2))])) hF83 hM8 (wantedS rfl) (run_call rfl Tryd.func16 (by kernel_rfl) rfl (mapE3 (hF83.ev 128 rfl) (hF83.ev 129 rfl) (hF83.ev 130 rfl))) rfl (by decide) (ropen_any k o S w8 hLk (by first | omega | decide | (simp; omega))) fun a84 w9 hb9 hF84 hM9 => ?_
      refine sq (v := (.tuple #[(.string ⟨((openS k o S).1).toArray⟩), (.int .i64 ((openS k o S).2))])) hF84 (wantedS rfl) (run_mv rfl (hF84.ev 131 rfl)) rfl (by decide) fun a85 hF85 => ?_
      refine sq (v := (.string ⟨((openS k o S).1).toArray⟩)) hF85 (wantedS rfl) (run_ext rfl (hF85.ev 127 rfl) rfl) rfl (by decide) fun a86 hF86 => ?_
      refine sq (v := (.int .i64 ((openS k o S).2))) hF86 (wantedS rfl) (run_ext rfl (hF86.ev 127 rfl) rfl) rfl (by decide) fun a87 hF87 => ?_
      refine sq (v := (.string ⟨((openS k o S).1).toArray⟩)) hF87 (wantedS rfl) (run_as rfl (hF87.ev 132 rfl)) rfl (by decide) fun a88 hF88 => ?_
      refine sq (v := (.int .i64 ((openS k o S).2))) hF88 (wantedS rfl) (run_as rfl (hF88.ev 133 rfl)) rfl (by decide) fun a89 hF89 => ?_
      refine sqEnd ?_
      clear hF80 hF81 hF82 hF83 hF84 hF85 hF86 hF87 hF88 hM8
      refine nx ?_
      refine wp_seq ?_
      by_cases hz3 : (openS k o S).2 = 0
      · skip
        refine wp_region_lit ?_
        refine sq (v := (.int .i64 ((openS k o S).2))) hF89 (wantedS rfl) (run_mv rfl (hF89.ev 29 rfl)) rfl (by decide) fun a90 hF90 => ?_
        refine sq (v := (.bool false)) hF90 (wantedS rfl) (run_nei rfl (hF90.ev 134 rfl) rfl (by rw [bne_eq_false_iff_eq]; omega)) rfl (by decide) fun a91 hF91 => ?_
        refine sqEnd ?_
        clear hF89 hF90
        refine nx ?_
        refine wp_cond_false (hF91.ev 135 rfl) ?_
        refine wp_skip ?_
        refine nx ?_
        refine wp_seq ?_
        refine wp_region_lit ?_
        refine sqC (v := (.bool true)) hF91 hM9 (wantedS rfl) (run_call rfl Tryd.func12 (by kernel_rfl) rfl (mapE0 )) rfl (by decide) (awake_any w9 (HG.below hM9.below)) fun a92 w10 hb10 hF92 hM10 => ?_
        refine sq (v := (.bool true)) hF92 (wantedS rfl) (run_as rfl (hF92.ev 157 rfl)) rfl (by decide) fun a93 hF93 => ?_
        refine sqEnd ?_
        clear hF91 hF92 hM9
        refine nx ?_
        refine wp_ret ?_
        exact ret1 hF93 rfl rfl ⟨rfl, hM10.below⟩
      · skip
        refine wp_region_lit ?_
        refine sq (v := (.int .i64 ((openS k o S).2))) hF89 (wantedS rfl) (run_mv rfl (hF89.ev 29 rfl)) rfl (by decide) fun a90 hF90 => ?_
        refine sq (v := (.bool true)) hF90 (wantedS rfl) (run_nei rfl (hF90.ev 134 rfl) rfl (bne_iff_ne.2 (by omega))) rfl (by decide) fun a91 hF91 => ?_
        refine sqEnd ?_
        clear hF89 hF90
        refine nx ?_
        refine wp_cond_true (hF91.ev 135 rfl) ?_
        refine wp_seq ?_
        refine wp_region_lit ?_
        refine sq (v := (.agg (cells8 k))) hF91 (wantedS rfl) (run_ldB rfl (hF91.ev 7 rfl) (hM9.at 2 rfl) Tryd.underlying23 rfl sz32k (szOf hLk)) rfl (by decide) fun a92 hF92 => ?_
        refine sq (v := (.string ⟨o.toArray⟩)) hF92 (wantedS rfl) (run_mv rfl (hF92.ev 6 rfl)) rfl (by decide) fun a93 hF93 => ?_
        refine sq (v := (.string ⟨S.toArray⟩)) hF93 (wantedS rfl) (run_mv rfl (hF93.ev 19 rfl)) rfl (by decide) fun a94 hF94 => ?_
        refine sqC (v := (.tuple #[(.string ⟨((openS k o S).1).toArray⟩), (.int .i64 ((openS k o S).2))])) hF94 hM9 (wantedS rfl) (run_call rfl Tryd.func14 (by kernel_rfl) rfl (mapE3 (hF94.ev 137 rfl) (hF94.ev 138 rfl) (hF94.ev 139 rfl))) rfl (by decide) (sopen_any k o S w9 (HG.below hM9.below) hLk (by first | omega | decide | (simp; omega))) fun a95 w10 hb10 hF95 hM10 => ?_
        refine sq (v := (.tuple #[(.string ⟨((openS k o S).1).toArray⟩), (.int .i64 ((openS k o S).2))])) hF95 (wantedS rfl) (run_mv rfl (hF95.ev 140 rfl)) rfl (by decide) fun a96 hF96 => ?_
        refine sq (v := (.string ⟨((openS k o S).1).toArray⟩)) hF96 (wantedS rfl) (run_ext rfl (hF96.ev 136 rfl) rfl) rfl (by decide) fun a97 hF97 => ?_
        refine sq (v := (.int .i64 ((openS k o S).2))) hF97 (wantedS rfl) (run_ext rfl (hF97.ev 136 rfl) rfl) rfl (by decide) fun a98 hF98 => ?_
        refine sq (v := (.string ⟨((openS k o S).1).toArray⟩)) hF98 (wantedS rfl) (run_as rfl (hF98.ev 141 rfl)) rfl (by decide) fun a99 hF99 => ?_
        refine sq (v := (.int .i64 ((openS k o S).2))) hF99 (wantedS rfl) (run_as rfl (hF99.ev 142 rfl)) rfl (by decide) fun a100 hF100 => ?_
        refine sqEnd ?_
        clear hF91 hF92 hF93 hF94 hF95 hF96 hF97 hF98 hF99 hM9
        refine nx ?_
        refine wp_seq ?_
        have h5 := openS_long k o S (by omega) hz3
        refine wp_region_lit ?_
        refine sq (v := (.string ⟨((openS k o S).1).toArray⟩)) hF100 (wantedS rfl) (run_mv rfl (hF100.ev 30 rfl)) rfl (by decide) fun a101 hF101 => ?_
        refine sq (v := (.bool true)) hF101 (wantedS rfl) (run_eqs rfl (hF101.ev 143 rfl) rfl (by rw [openS_or k o S hz3]; rfl)) rfl (by decide) fun a102 hF102 => ?_
        refine sq (v := (.bool true)) hF102 (wantedS rfl) (run_mv rfl (hF102.ev 144 rfl)) rfl (by decide) fun a103 hF103 => ?_
        refine sq (v := (.int .i64 ((openS k o S).2))) hF103 (wantedG hF103 rfl rfl rfl rfl rfl) (run_mv rfl (hF103.ev 31 rfl)) rfl (by decide) fun a104 hF104 => ?_
        refine sq (v := (.bool true)) hF104 (wantedG hF104 rfl rfl rfl rfl rfl) (run_eqi rfl (hF104.ev 146 rfl) rfl (beq_iff_eq.2 (by omega))) rfl (by decide) fun a105 hF105 => ?_
        refine sq (v := (.bool true)) hF105 (wantedS rfl) (run_pick rfl (hF105.ev 145 rfl) (hF105.ev 147 rfl) rfl) rfl (by decide) fun a106 hF106 => ?_
        refine sq (v := (.bool true)) hF106 (wantedS rfl) (run_mv rfl (hF106.ev 148 rfl)) rfl (by decide) fun a107 hF107 => ?_
        refine sq (v := (.string ⟨o.toArray⟩)) hF107 (wantedG hF107 rfl rfl rfl rfl rfl) (run_mv rfl (hF107.ev 6 rfl)) rfl (by decide) fun a108 hF108 => ?_
        refine sq (v := (.string ⟨h.toArray⟩)) hF108 (wantedG hF108 rfl rfl rfl rfl rfl) (run_mv rfl (hF108.ev 2 rfl)) rfl (by decide) fun a109 hF109 => ?_
        refine sq (v := (.bool true)) hF109 (wantedG hF109 rfl rfl rfl rfl rfl) (run_nes rfl (hF109.ev 150 rfl) (hF109.ev 151 rfl) (by rw [beq_eq_false_iff_ne.2 (fun e => hz3 (by rw [e, hso]))]; rfl)) rfl (by decide) fun a110 hF110 => ?_
        refine sq (v := (.bool true)) hF110 (wantedS rfl) (run_pick rfl (hF110.ev 149 rfl) (hF110.ev 152 rfl) rfl) rfl (by decide) fun a111 hF111 => ?_
        refine sq (v := (.bool true)) hF111 (wantedS rfl) (run_mv rfl (hF111.ev 153 rfl)) rfl (by decide) fun a112 hF112 => ?_
        refine sqC (v := (.bool true)) hF112 hM10 (wantedG hF112 rfl rfl rfl rfl rfl) (run_call rfl Tryd.func12 (by kernel_rfl) rfl (mapE0 )) rfl (by decide) (awake_any w10 (HG.below hM10.below)) fun a113 w11 hb11 hF113 hM11 => ?_
        refine sq (v := (.bool true)) hF113 (wantedS rfl) (run_pick rfl (hF113.ev 154 rfl) (hF113.ev 155 rfl) rfl) rfl (by decide) fun a114 hF114 => ?_
        refine sq (v := (.bool true)) hF114 (wantedS rfl) (run_as rfl (hF114.ev 156 rfl)) rfl (by decide) fun a115 hF115 => ?_
        refine sqEnd ?_
        clear hF100 hF101 hF102 hF103 hF104 hF105 hF106 hF107 hF108 hF109 hF110 hF111 hF112 hF113 hF114 hM10
        refine nx ?_
        refine wp_ret ?_
        refine nxRet ?_
        exact ret1 hF115 rfl rfl ⟨rfl, hM11.below⟩
    · skip
      refine wp_region_lit ?_
      refine sq (v := (.int .i64 ((openS k h (S.take n)).2))) hF78 (wantedS rfl) (run_mv rfl (hF78.ev 25 rfl)) rfl (by decide) fun a79 hF79 => ?_
      refine sq (v := (.bool true)) hF79 (wantedS rfl) (run_nei rfl (hF79.ev 111 rfl) rfl (bne_iff_ne.2 (by omega))) rfl (by decide) fun a80 hF80 => ?_
      refine sqEnd ?_
      clear hF78 hF79
      refine nx ?_
      refine wp_cond_true (hF80.ev 112 rfl) ?_
      refine wp_seq ?_
      refine wp_region_lit ?_
      refine sq (v := (.agg (cells8 k))) hF80 (wantedS rfl) (run_ldB rfl (hF80.ev 7 rfl) (hM8.at 2 rfl) Tryd.underlying23 rfl sz32k (szOf hLk)) rfl (by decide) fun a81 hF81 => ?_
      refine sq (v := (.string ⟨h.toArray⟩)) hF81 (wantedS rfl) (run_mv rfl (hF81.ev 2 rfl)) rfl (by decide) fun a82 hF82 => ?_
      refine sq (v := (.string ⟨(S.take n).toArray⟩)) hF82 (wantedS rfl) (run_mv rfl (hF82.ev 17 rfl)) rfl (by decide) fun a83 hF83 => ?_
      refine sqC (v := (.tuple #[(.string ⟨((openS k h (S.take n)).1).toArray⟩), (.int .i64 ((openS k h (S.take n)).2))])) hF83 hM8 (wantedS rfl) (run_call rfl Tryd.func14 (by kernel_rfl) rfl (mapE3 (hF83.ev 114 rfl) (hF83.ev 115 rfl) (hF83.ev 116 rfl))) rfl (by decide) (sopen_any k h (S.take n) w8 (HG.below hM8.below) hLk (by first | omega | decide | (simp; omega))) fun a84 w9 hb9 hF84 hM9 => ?_
      refine sq (v := (.tuple #[(.string ⟨((openS k h (S.take n)).1).toArray⟩), (.int .i64 ((openS k h (S.take n)).2))])) hF84 (wantedS rfl) (run_mv rfl (hF84.ev 117 rfl)) rfl (by decide) fun a85 hF85 => ?_
      refine sq (v := (.string ⟨((openS k h (S.take n)).1).toArray⟩)) hF85 (wantedS rfl) (run_ext rfl (hF85.ev 113 rfl) rfl) rfl (by decide) fun a86 hF86 => ?_
      refine sq (v := (.int .i64 ((openS k h (S.take n)).2))) hF86 (wantedS rfl) (run_ext rfl (hF86.ev 113 rfl) rfl) rfl (by decide) fun a87 hF87 => ?_
      refine sq (v := (.string ⟨((openS k h (S.take n)).1).toArray⟩)) hF87 (wantedS rfl) (run_as rfl (hF87.ev 118 rfl)) rfl (by decide) fun a88 hF88 => ?_
      refine sq (v := (.int .i64 ((openS k h (S.take n)).2))) hF88 (wantedS rfl) (run_as rfl (hF88.ev 119 rfl)) rfl (by decide) fun a89 hF89 => ?_
      refine sqEnd ?_
      clear hF80 hF81 hF82 hF83 hF84 hF85 hF86 hF87 hF88 hM8
      refine nx ?_
      refine wp_seq ?_
      refine wp_region_lit ?_
      refine sq (v := (.string ⟨((openS k h (S.take n)).1).toArray⟩)) hF89 (wantedS rfl) (run_mv rfl (hF89.ev 26 rfl)) rfl (by decide) fun a90 hF90 => ?_
      refine sq (v := (.bool false)) hF90 (wantedS rfl) (run_nes rfl (hF90.ev 120 rfl) rfl (by rw [openS_or k h (S.take n) hz2]; rfl)) rfl (by decide) fun a91 hF91 => ?_
      refine sq (v := (.bool false)) hF91 (wantedS rfl) (run_mv rfl (hF91.ev 121 rfl)) rfl (by decide) fun a92 hF92 => ?_
      refine sq (v := (.int .i64 ((openS k h (S.take n)).2))) hF92 (wantedG hF92 rfl rfl rfl rfl rfl) (run_mv rfl (hF92.ev 27 rfl)) rfl (by decide) fun a93 hF93 => ?_
      refine sq (v := (.int .i64 ((openS k h (S.take n)).2))) hF93 (wantedG hF93 rfl rfl rfl rfl rfl) (run_mv rfl (hF93.ev 25 rfl)) rfl (by decide) fun a94 hF94 => ?_
      refine sq (v := (.bool false)) hF94 (wantedG hF94 rfl rfl rfl rfl rfl) (run_nei rfl (hF94.ev 123 rfl) (hF94.ev 124 rfl) (bne_self_eq_false _)) rfl (by decide) fun a95 hF95 => ?_
      refine sq (v := (.bool false)) hF95 (wantedS rfl) (run_pick rfl (hF95.ev 122 rfl) rfl (hF95.ev 125 rfl)) rfl (by decide) fun a96 hF96 => ?_
      refine sqEnd ?_
      clear hF89 hF90 hF91 hF92 hF93 hF94 hF95
      refine nx ?_
      refine wp_cond_false (hF96.ev 126 rfl) ?_
      refine wp_skip ?_
      refine nx ?_
      refine wp_seq ?_
      refine wp_seq ?_
      refine wp_region_lit ?_
      refine sq (v := (.agg (cells8 k))) hF96 (wantedS rfl) (run_ldB rfl (hF96.ev 7 rfl) (hM9.at 2 rfl) Tryd.underlying23 rfl sz32k (szOf hLk)) rfl (by decide) fun a97 hF97 => ?_
      refine sq (v := (.string ⟨o.toArray⟩)) hF97 (wantedS rfl) (run_mv rfl (hF97.ev 6 rfl)) rfl (by decide) fun a98 hF98 => ?_
      refine sq (v := (.string ⟨S.toArray⟩)) hF98 (wantedS rfl) (run_mv rfl (hF98.ev 19 rfl)) rfl (by decide) fun a99 hF99 => ?_
      refine sqC (v := (.tuple #[(.string ⟨((openS k o S).1).toArray⟩), (.int .i64 ((openS k o S).2))])) hF99 hM9 (wantedS rfl) (run_call rfl Tryd.func16 (by kernel_rfl) rfl (mapE3 (hF99.ev 128 rfl) (hF99.ev 129 rfl) (hF99.ev 130 rfl))) rfl (by decide) (ropen_any k o S w9 hLk (by first | omega | decide | (simp; omega))) fun a100 w10 hb10 hF100 hM10 => ?_
      refine sq (v := (.tuple #[(.string ⟨((openS k o S).1).toArray⟩), (.int .i64 ((openS k o S).2))])) hF100 (wantedS rfl) (run_mv rfl (hF100.ev 131 rfl)) rfl (by decide) fun a101 hF101 => ?_
      refine sq (v := (.string ⟨((openS k o S).1).toArray⟩)) hF101 (wantedS rfl) (run_ext rfl (hF101.ev 127 rfl) rfl) rfl (by decide) fun a102 hF102 => ?_
      refine sq (v := (.int .i64 ((openS k o S).2))) hF102 (wantedS rfl) (run_ext rfl (hF102.ev 127 rfl) rfl) rfl (by decide) fun a103 hF103 => ?_
      refine sq (v := (.string ⟨((openS k o S).1).toArray⟩)) hF103 (wantedS rfl) (run_as rfl (hF103.ev 132 rfl)) rfl (by decide) fun a104 hF104 => ?_
      refine sq (v := (.int .i64 ((openS k o S).2))) hF104 (wantedS rfl) (run_as rfl (hF104.ev 133 rfl)) rfl (by decide) fun a105 hF105 => ?_
      refine sqEnd ?_
      clear hF96 hF97 hF98 hF99 hF100 hF101 hF102 hF103 hF104 hM9
      refine nx ?_
      refine wp_seq ?_
      by_cases hz3 : (openS k o S).2 = 0
      · skip
        refine wp_region_lit ?_
        refine sq (v := (.int .i64 ((openS k o S).2))) hF105 (wantedS rfl) (run_mv rfl (hF105.ev 29 rfl)) rfl (by decide) fun a106 hF106 => ?_
        refine sq (v := (.bool false)) hF106 (wantedS rfl) (run_nei rfl (hF106.ev 134 rfl) rfl (by rw [bne_eq_false_iff_eq]; omega)) rfl (by decide) fun a107 hF107 => ?_
        refine sqEnd ?_
        clear hF105 hF106
        refine nx ?_
        refine wp_cond_false (hF107.ev 135 rfl) ?_
        refine wp_skip ?_
        refine nx ?_
        refine wp_seq ?_
        refine wp_region_lit ?_
        refine sqC (v := (.bool true)) hF107 hM10 (wantedS rfl) (run_call rfl Tryd.func12 (by kernel_rfl) rfl (mapE0 )) rfl (by decide) (awake_any w10 (HG.below hM10.below)) fun a108 w11 hb11 hF108 hM11 => ?_
        refine sq (v := (.bool true)) hF108 (wantedS rfl) (run_as rfl (hF108.ev 157 rfl)) rfl (by decide) fun a109 hF109 => ?_
        refine sqEnd ?_
        clear hF107 hF108 hM10
        refine nx ?_
        refine wp_ret ?_
        exact ret1 hF109 rfl rfl ⟨rfl, hM11.below⟩
      · skip
        refine wp_region_lit ?_
        refine sq (v := (.int .i64 ((openS k o S).2))) hF105 (wantedS rfl) (run_mv rfl (hF105.ev 29 rfl)) rfl (by decide) fun a106 hF106 => ?_
        refine sq (v := (.bool true)) hF106 (wantedS rfl) (run_nei rfl (hF106.ev 134 rfl) rfl (bne_iff_ne.2 (by omega))) rfl (by decide) fun a107 hF107 => ?_
        refine sqEnd ?_
        clear hF105 hF106
        refine nx ?_
        refine wp_cond_true (hF107.ev 135 rfl) ?_
        refine wp_seq ?_
        refine wp_region_lit ?_
        refine sq (v := (.agg (cells8 k))) hF107 (wantedS rfl) (run_ldB rfl (hF107.ev 7 rfl) (hM10.at 2 rfl) Tryd.underlying23 rfl sz32k (szOf hLk)) rfl (by decide) fun a108 hF108 => ?_
        refine sq (v := (.string ⟨o.toArray⟩)) hF108 (wantedS rfl) (run_mv rfl (hF108.ev 6 rfl)) rfl (by decide) fun a109 hF109 => ?_
        refine sq (v := (.string ⟨S.toArray⟩)) hF109 (wantedS rfl) (run_mv rfl (hF109.ev 19 rfl)) rfl (by decide) fun a110 hF110 => ?_
        refine sqC (v := (.tuple #[(.string ⟨((openS k o S).1).toArray⟩), (.int .i64 ((openS k o S).2))])) hF110 hM10 (wantedS rfl) (run_call rfl Tryd.func14 (by kernel_rfl) rfl (mapE3 (hF110.ev 137 rfl) (hF110.ev 138 rfl) (hF110.ev 139 rfl))) rfl (by decide) (sopen_any k o S w10 (HG.below hM10.below) hLk (by first | omega | decide | (simp; omega))) fun a111 w11 hb11 hF111 hM11 => ?_
        refine sq (v := (.tuple #[(.string ⟨((openS k o S).1).toArray⟩), (.int .i64 ((openS k o S).2))])) hF111 (wantedS rfl) (run_mv rfl (hF111.ev 140 rfl)) rfl (by decide) fun a112 hF112 => ?_
        refine sq (v := (.string ⟨((openS k o S).1).toArray⟩)) hF112 (wantedS rfl) (run_ext rfl (hF112.ev 136 rfl) rfl) rfl (by decide) fun a113 hF113 => ?_
        refine sq (v := (.int .i64 ((openS k o S).2))) hF113 (wantedS rfl) (run_ext rfl (hF113.ev 136 rfl) rfl) rfl (by decide) fun a114 hF114 => ?_
        refine sq (v := (.string ⟨((openS k o S).1).toArray⟩)) hF114 (wantedS rfl) (run_as rfl (hF114.ev 141 rfl)) rfl (by decide) fun a115 hF115 => ?_
        refine sq (v := (.int .i64 ((openS k o S).2))) hF115 (wantedS rfl) (run_as rfl (hF115.ev 142 rfl)) rfl (by decide) fun a116 hF116 => ?_
        refine sqEnd ?_
        clear hF107 hF108 hF109 hF110 hF111 hF112 hF113 hF114 hF115 hM10
        refine nx ?_
        refine wp_seq ?_
        have h5 := openS_long k o S (by omega) hz3
        refine wp_region_lit ?_
        refine sq (v := (.string ⟨((openS k o S).1).toArray⟩)) hF116 (wantedS rfl) (run_mv rfl (hF116.ev 30 rfl)) rfl (by decide) fun a117 hF117 => ?_
        refine sq (v := (.bool true)) hF117 (wantedS rfl) (run_eqs rfl (hF117.ev 143 rfl) rfl (by rw [openS_or k o S hz3]; rfl)) rfl (by decide) fun a118 hF118 => ?_
        refine sq (v := (.bool true)) hF118 (wantedS rfl) (run_mv rfl (hF118.ev 144 rfl)) rfl (by decide) fun a119 hF119 => ?_
        refine sq (v := (.int .i64 ((openS k o S).2))) hF119 (wantedG hF119 rfl rfl rfl rfl rfl) (run_mv rfl (hF119.ev 31 rfl)) rfl (by decide) fun a120 hF120 => ?_
        refine sq (v := (.bool true)) hF120 (wantedG hF120 rfl rfl rfl rfl rfl) (run_eqi rfl (hF120.ev 146 rfl) rfl (beq_iff_eq.2 (by omega))) rfl (by decide) fun a121 hF121 => ?_
        refine sq (v := (.bool true)) hF121 (wantedS rfl) (run_pick rfl (hF121.ev 145 rfl) (hF121.ev 147 rfl) rfl) rfl (by decide) fun a122 hF122 => ?_
        refine sq (v := (.bool true)) hF122 (wantedS rfl) (run_mv rfl (hF122.ev 148 rfl)) rfl (by decide) fun a123 hF123 => ?_
        refine sq (v := (.string ⟨o.toArray⟩)) hF123 (wantedG hF123 rfl rfl rfl rfl rfl) (run_mv rfl (hF123.ev 6 rfl)) rfl (by decide) fun a124 hF124 => ?_
        refine sq (v := (.string ⟨h.toArray⟩)) hF124 (wantedG hF124 rfl rfl rfl rfl rfl) (run_mv rfl (hF124.ev 2 rfl)) rfl (by decide) fun a125 hF125 => ?_
        refine sq (v := (.bool true)) hF125 (wantedG hF125 rfl rfl rfl rfl rfl) (run_nes rfl (hF125.ev 150 rfl) (hF125.ev 151 rfl) (by rw [beq_eq_false_iff_ne.2 (fun e => hz3 (by rw [e, hso]))]; rfl)) rfl (by decide) fun a126 hF126 => ?_
        refine sq (v := (.bool true)) hF126 (wantedS rfl) (run_pick rfl (hF126.ev 149 rfl) (hF126.ev 152 rfl) rfl) rfl (by decide) fun a127 hF127 => ?_
        refine sq (v := (.bool true)) hF127 (wantedS rfl) (run_mv rfl (hF127.ev 153 rfl)) rfl (by decide) fun a128 hF128 => ?_
        refine sqC (v := (.bool true)) hF128 hM11 (wantedG hF128 rfl rfl rfl rfl rfl) (run_call rfl Tryd.func12 (by kernel_rfl) rfl (mapE0 )) rfl (by decide) (awake_any w11 (HG.below hM11.below)) fun a129 w12 hb12 hF129 hM12 => ?_
        refine sq (v := (.bool true)) hF129 (wantedS rfl) (run_pick rfl (hF129.ev 154 rfl) (hF129.ev 155 rfl) rfl) rfl (by decide) fun a130 hF130 => ?_
        refine sq (v := (.bool true)) hF130 (wantedS rfl) (run_as rfl (hF130.ev 156 rfl)) rfl (by decide) fun a131 hF131 => ?_
        refine sqEnd ?_
        clear hF116 hF117 hF118 hF119 hF120 hF121 hF122 hF123 hF124 hF125 hF126 hF127 hF128 hF129 hF130 hM11
        refine nx ?_
        refine wp_ret ?_
        refine nxRet ?_
        exact ret1 hF131 rfl rfl ⟨rfl, hM12.below⟩
  · skip
    refine wp_region_lit ?_
    refine sq (v := (.int .i64 ((openS k h (S.set n (((bt S n) ^^^ y)))).2))) hF67 (wantedS rfl) (run_mv rfl (hF67.ev 21 rfl)) rfl (by decide) fun a68 hF68 => ?_
    refine sq (v := (.bool true)) hF68 (wantedS rfl) (run_nei rfl (hF68.ev 89 rfl) rfl (bne_iff_ne.2 (by omega))) rfl (by decide) fun a69 hF69 => ?_
    refine sqEnd ?_
    clear hF67 hF68
    refine nx ?_
    refine wp_cond_true (hF69.ev 90 rfl) ?_
    refine wp_seq ?_
    refine wp_region_lit ?_
    refine sq (v := (.agg (cells8 k))) hF69 (wantedS rfl) (run_ldB rfl (hF69.ev 7 rfl) (hM7.at 2 rfl) Tryd.underlying23 rfl sz32k (szOf hLk)) rfl (by decide) fun a70 hF70 => ?_
    refine sq (v := (.string ⟨h.toArray⟩)) hF70 (wantedS rfl) (run_mv rfl (hF70.ev 2 rfl)) rfl (by decide) fun a71 hF71 => ?_
    refine sq (v := (.string ⟨(S.set n (((bt S n) ^^^ y))).toArray⟩)) hF71 (wantedS rfl) (run_mv rfl (hF71.ev 18 rfl)) rfl (by decide) fun a72 hF72 => ?_
    refine sqC (v := (.tuple #[(.string ⟨((openS k h (S.set n (((bt S n) ^^^ y)))).1).toArray⟩), (.int .i64 ((openS k h (S.set n (((bt S n) ^^^ y)))).2))])) hF72 hM7 (wantedS rfl) (run_call rfl Tryd.func14 (by kernel_rfl) rfl (mapE3 (hF72.ev 92 rfl) (hF72.ev 93 rfl) (hF72.ev 94 rfl))) rfl (by decide) (sopen_any k h (S.set n (((bt S n) ^^^ y))) w7 (HG.below hM7.below) hLk (by first | omega | decide | (simp; omega))) fun a73 w8 hb8 hF73 hM8 => ?_
    refine sq (v := (.tuple #[(.string ⟨((openS k h (S.set n (((bt S n) ^^^ y)))).1).toArray⟩), (.int .i64 ((openS k h (S.set n (((bt S n) ^^^ y)))).2))])) hF73 (wantedS rfl) (run_mv rfl (hF73.ev 95 rfl)) rfl (by decide) fun a74 hF74 => ?_
    refine sq (v := (.string ⟨((openS k h (S.set n (((bt S n) ^^^ y)))).1).toArray⟩)) hF74 (wantedS rfl) (run_ext rfl (hF74.ev 91 rfl) rfl) rfl (by decide) fun a75 hF75 => ?_
    refine sq (v := (.int .i64 ((openS k h (S.set n (((bt S n) ^^^ y)))).2))) hF75 (wantedS rfl) (run_ext rfl (hF75.ev 91 rfl) rfl) rfl (by decide) fun a76 hF76 => ?_
    refine sq (v := (.string ⟨((openS k h (S.set n (((bt S n) ^^^ y)))).1).toArray⟩)) hF76 (wantedS rfl) (run_as rfl (hF76.ev 96 rfl)) rfl (by decide) fun a77 hF77 => ?_
    refine sq (v := (.int .i64 ((openS k h (S.set n (((bt S n) ^^^ y)))).2))) hF77 (wantedS rfl) (run_as rfl (hF77.ev 97 rfl)) rfl (by decide) fun a78 hF78 => ?_
    refine sqEnd ?_
    clear hF69 hF70 hF71 hF72 hF73 hF74 hF75 hF76 hF77 hM7
    refine nx ?_
    refine wp_seq ?_
    have h5 := openS_long k h (S.set n (bt S n ^^^ y)) (by omega) hz1
    refine wp_region_lit ?_
    refine sq (v := (.string ⟨((openS k h (S.set n (((bt S n) ^^^ y)))).1).toArray⟩)) hF78 (wantedS rfl) (run_mv rfl (hF78.ev 22 rfl)) rfl (by decide) fun a79 hF79 => ?_
    refine sq (v := (.bool false)) hF79 (wantedS rfl) (run_nes rfl (hF79.ev 98 rfl) rfl (by rw [openS_or k h (S.set n (bt S n ^^^ y)) hz1]; rfl)) rfl (by decide) fun a80 hF80 => ?_
    refine sq (v := (.bool false)) hF80 (wantedS rfl) (run_mv rfl (hF80.ev 99 rfl)) rfl (by decide) fun a81 hF81 => ?_
    refine sq (v := (.int .i64 ((openS k h (S.set n (((bt S n) ^^^ y)))).2))) hF81 (wantedG hF81 rfl rfl rfl rfl rfl) (run_mv rfl (hF81.ev 23 rfl)) rfl (by decide) fun a82 hF82 => ?_
    refine sq (v := (.bool false)) hF82 (wantedG hF82 rfl rfl rfl rfl rfl) (run_nei rfl (hF82.ev 101 rfl) rfl (by rw [bne_eq_false_iff_eq]; omega)) rfl (by decide) fun a83 hF83 => ?_
    refine sq (v := (.bool false)) hF83 (wantedS rfl) (run_pick rfl (hF83.ev 100 rfl) rfl (hF83.ev 102 rfl)) rfl (by decide) fun a84 hF84 => ?_
    refine sqEnd ?_
    clear hF78 hF79 hF80 hF81 hF82 hF83
    refine nx ?_
    refine wp_cond_false (hF84.ev 103 rfl) ?_
    refine wp_skip ?_
    refine nx ?_
    refine wp_seq ?_
    refine wp_seq ?_
    refine wp_region_lit ?_
    refine sq (v := (.agg (cells8 k))) hF84 (wantedS rfl) (run_ldB rfl (hF84.ev 7 rfl) (hM8.at 2 rfl) Tryd.underlying23 rfl sz32k (szOf hLk)) rfl (by decide) fun a85 hF85 => ?_
    refine sq (v := (.string ⟨h.toArray⟩)) hF85 (wantedS rfl) (run_mv rfl (hF85.ev 2 rfl)) rfl (by decide) fun a86 hF86 => ?_
    refine sq (v := (.string ⟨(S.take n).toArray⟩)) hF86 (wantedS rfl) (run_mv rfl (hF86.ev 17 rfl)) rfl (by decide) fun a87 hF87 => ?_
    refine sqC (v := (.tuple #[(.string ⟨((openS k h (S.take n)).1).toArray⟩), (.int .i64 ((openS k h (S.take n)).2))])) hF87 hM8 (wantedS rfl) (run_call rfl Tryd.func16 (by kernel_rfl) rfl (mapE3 (hF87.ev 105 rfl) (hF87.ev 106 rfl) (hF87.ev 107 rfl))) rfl (by decide) (ropen_any k h (S.take n) w8 hLk (by first | omega | decide | (simp; omega))) fun a88 w9 hb9 hF88 hM9 => ?_
    refine sq (v := (.tuple #[(.string ⟨((openS k h (S.take n)).1).toArray⟩), (.int .i64 ((openS k h (S.take n)).2))])) hF88 (wantedS rfl) (run_mv rfl (hF88.ev 108 rfl)) rfl (by decide) fun a89 hF89 => ?_
    refine sq (v := (.string ⟨((openS k h (S.take n)).1).toArray⟩)) hF89 (wantedS rfl) (run_ext rfl (hF89.ev 104 rfl) rfl) rfl (by decide) fun a90 hF90 => ?_
    refine sq (v := (.int .i64 ((openS k h (S.take n)).2))) hF90 (wantedS rfl) (run_ext rfl (hF90.ev 104 rfl) rfl) rfl (by decide) fun a91 hF91 => ?_
    refine sq (v := (.string ⟨((openS k h (S.take n)).1).toArray⟩)) hF91 (wantedS rfl) (run_as rfl (hF91.ev 109 rfl)) rfl (by decide) fun a92 hF92 => ?_
    refine sq (v := (.int .i64 ((openS k h (S.take n)).2))) hF92 (wantedS rfl) (run_as rfl (hF92.ev 110 rfl)) rfl (by decide) fun a93 hF93 => ?_
    refine sqEnd ?_
    clear hF84 hF85 hF86 hF87 hF88 hF89 hF90 hF91 hF92 hM8
    refine nx ?_
    refine wp_seq ?_
    by_cases hz2 : (openS k h (S.take n)).2 = 0
    · skip
      refine wp_region_lit ?_
      refine sq (v := (.int .i64 ((openS k h (S.take n)).2))) hF93 (wantedS rfl) (run_mv rfl (hF93.ev 25 rfl)) rfl (by decide) fun a94 hF94 => ?_
      refine sq (v := (.bool false)) hF94 (wantedS rfl) (run_nei rfl (hF94.ev 111 rfl) rfl (by rw [bne_eq_false_iff_eq]; omega)) rfl (by decide) fun a95 hF95 => ?_
      refine sqEnd ?_
      clear hF93 hF94
      refine nx ?_
      refine wp_cond_false (hF95.ev 112 rfl) ?_
      refine wp_skip ?_
      refine nx ?_
      refine wp_seq ?_
      refine wp_seq ?_
      refine wp_region_lit ?_
      refine sq (v := (.agg (cells8 k))) hF95 (wantedS rfl) (run_ldB rfl (hF95.ev 7 rfl) (hM9.at 2 rfl) Tryd.underlying23 rfl sz32k (szOf hLk)) rfl (by decide) fun a96 hF96 => ?_
      refine sq (v := (.string ⟨o.toArray⟩)) hF96 (wantedS rfl) (run_mv rfl (hF96.ev 6 rfl)) rfl (by decide) fun a97 hF97 => ?_
      refine sq (v := (.string ⟨S.toArray⟩)) hF97 (wantedS rfl) (run_mv rfl (hF97.ev 19 rfl)) rfl (by decide) fun a98 hF98 => ?_
      refine sqC (v := (.tuple #[(.string ⟨((openS k o S).1).toArray⟩), (.int .i64 ((openS k o S).2))])) hF98 hM9 (wantedS rfl) (run_call rfl Tryd.func16 (by kernel_rfl) rfl (mapE3 (hF98.ev 128 rfl) (hF98.ev 129 rfl) (hF98.ev 130 rfl))) rfl (by decide) (ropen_any k o S w9 hLk (by first | omega | decide | (simp; omega))) fun a99 w10 hb10 hF99 hM10 => ?_
      refine sq (v := (.tuple #[(.string ⟨((openS k o S).1).toArray⟩), (.int .i64 ((openS k o S).2))])) hF99 (wantedS rfl) (run_mv rfl (hF99.ev 131 rfl)) rfl (by decide) fun a100 hF100 => ?_
      refine sq (v := (.string ⟨((openS k o S).1).toArray⟩)) hF100 (wantedS rfl) (run_ext rfl (hF100.ev 127 rfl) rfl) rfl (by decide) fun a101 hF101 => ?_
      refine sq (v := (.int .i64 ((openS k o S).2))) hF101 (wantedS rfl) (run_ext rfl (hF101.ev 127 rfl) rfl) rfl (by decide) fun a102 hF102 => ?_
      refine sq (v := (.string ⟨((openS k o S).1).toArray⟩)) hF102 (wantedS rfl) (run_as rfl (hF102.ev 132 rfl)) rfl (by decide) fun a103 hF103 => ?_
      refine sq (v := (.int .i64 ((openS k o S).2))) hF103 (wantedS rfl) (run_as rfl (hF103.ev 133 rfl)) rfl (by decide) fun a104 hF104 => ?_
      refine sqEnd ?_
      clear hF95 hF96 hF97 hF98 hF99 hF100 hF101 hF102 hF103 hM9
      refine nx ?_
      refine wp_seq ?_
      by_cases hz3 : (openS k o S).2 = 0
      · skip
        refine wp_region_lit ?_
        refine sq (v := (.int .i64 ((openS k o S).2))) hF104 (wantedS rfl) (run_mv rfl (hF104.ev 29 rfl)) rfl (by decide) fun a105 hF105 => ?_
        refine sq (v := (.bool false)) hF105 (wantedS rfl) (run_nei rfl (hF105.ev 134 rfl) rfl (by rw [bne_eq_false_iff_eq]; omega)) rfl (by decide) fun a106 hF106 => ?_
        refine sqEnd ?_
        clear hF104 hF105
        refine nx ?_
        refine wp_cond_false (hF106.ev 135 rfl) ?_
        refine wp_skip ?_
        refine nx ?_
        refine wp_seq ?_
        refine wp_region_lit ?_
        refine sqC (v := (.bool true)) hF106 hM10 (wantedS rfl) (run_call rfl Tryd.func12 (by kernel_rfl) rfl (mapE0 )) rfl (by decide) (awake_any w10 (HG.below hM10.below)) fun a107 w11 hb11 hF107 hM11 => ?_
        refine sq (v := (.bool true)) hF107 (wantedS rfl) (run_as rfl (hF107.ev 157 rfl)) rfl (by decide) fun a108 hF108 => ?_
        refine sqEnd ?_
        clear hF106 hF107 hM10
        refine nx ?_
        refine wp_ret ?_
        exact ret1 hF108 rfl rfl ⟨rfl, hM11.below⟩
      · skip
        refine wp_region_lit ?_
        refine sq (v := (.int .i64 ((openS k o S).2))) hF104 (wantedS rfl) (run_mv rfl (hF104.ev 29 rfl)) rfl (by decide) fun a105 hF105 => ?_
        refine sq (v := (.bool true)) hF105 (wantedS rfl) (run_nei rfl (hF105.ev 134 rfl) rfl (bne_iff_ne.2 (by omega))) rfl (by decide) fun a106 hF106 => ?_
        refine sqEnd ?_
        clear hF104 hF105
        refine nx ?_
        refine wp_cond_true (hF106.ev 135 rfl) ?_
        refine wp_seq ?_
        refine wp_region_lit ?_
        refine sq (v := (.agg (cells8 k))) hF106 (wantedS rfl) (run_ldB rfl (hF106.ev 7 rfl) (hM10.at 2 rfl) Tryd.underlying23 rfl sz32k (szOf hLk)) rfl (by decide) fun a107 hF107 => ?_
        refine sq (v := (.string ⟨o.toArray⟩)) hF107 (wantedS rfl) (run_mv rfl (hF107.ev 6 rfl)) rfl (by decide) fun a108 hF108 => ?_
        refine sq (v := (.string ⟨S.toArray⟩)) hF108 (wantedS rfl) (run_mv rfl (hF108.ev 19 rfl)) rfl (by decide) fun a109 hF109 => ?_
        refine sqC (v := (.tuple #[(.string ⟨((openS k o S).1).toArray⟩), (.int .i64 ((openS k o S).2))])) hF109 hM10 (wantedS rfl) (run_call rfl Tryd.func14 (by kernel_rfl) rfl (mapE3 (hF109.ev 137 rfl) (hF109.ev 138 rfl) (hF109.ev 139 rfl))) rfl (by decide) (sopen_any k o S w10 (HG.below hM10.below) hLk (by first | omega | decide | (simp; omega))) fun a110 w11 hb11 hF110 hM11 => ?_
        refine sq (v := (.tuple #[(.string ⟨((openS k o S).1).toArray⟩), (.int .i64 ((openS k o S).2))])) hF110 (wantedS rfl) (run_mv rfl (hF110.ev 140 rfl)) rfl (by decide) fun a111 hF111 => ?_
        refine sq (v := (.string ⟨((openS k o S).1).toArray⟩)) hF111 (wantedS rfl) (run_ext rfl (hF111.ev 136 rfl) rfl) rfl (by decide) fun a112 hF112 => ?_
        refine sq (v := (.int .i64 ((openS k o S).2))) hF112 (wantedS rfl) (run_ext rfl (hF112.ev 136 rfl) rfl) rfl (by decide) fun a113 hF113 => ?_
        refine sq (v := (.string ⟨((openS k o S).1).toArray⟩)) hF113 (wantedS rfl) (run_as rfl (hF113.ev 141 rfl)) rfl (by decide) fun a114 hF114 => ?_
        refine sq (v := (.int .i64 ((openS k o S).2))) hF114 (wantedS rfl) (run_as rfl (hF114.ev 142 rfl)) rfl (by decide) fun a115 hF115 => ?_
        refine sqEnd ?_
        clear hF106 hF107 hF108 hF109 hF110 hF111 hF112 hF113 hF114 hM10
        refine nx ?_
        refine wp_seq ?_
        have h5 := openS_long k o S (by omega) hz3
        refine wp_region_lit ?_
        refine sq (v := (.string ⟨((openS k o S).1).toArray⟩)) hF115 (wantedS rfl) (run_mv rfl (hF115.ev 30 rfl)) rfl (by decide) fun a116 hF116 => ?_
        refine sq (v := (.bool true)) hF116 (wantedS rfl) (run_eqs rfl (hF116.ev 143 rfl) rfl (by rw [openS_or k o S hz3]; rfl)) rfl (by decide) fun a117 hF117 => ?_
        refine sq (v := (.bool true)) hF117 (wantedS rfl) (run_mv rfl (hF117.ev 144 rfl)) rfl (by decide) fun a118 hF118 => ?_
        refine sq (v := (.int .i64 ((openS k o S).2))) hF118 (wantedG hF118 rfl rfl rfl rfl rfl) (run_mv rfl (hF118.ev 31 rfl)) rfl (by decide) fun a119 hF119 => ?_
        refine sq (v := (.bool true)) hF119 (wantedG hF119 rfl rfl rfl rfl rfl) (run_eqi rfl (hF119.ev 146 rfl) rfl (beq_iff_eq.2 (by omega))) rfl (by decide) fun a120 hF120 => ?_
        refine sq (v := (.bool true)) hF120 (wantedS rfl) (run_pick rfl (hF120.ev 145 rfl) (hF120.ev 147 rfl) rfl) rfl (by decide) fun a121 hF121 => ?_
        refine sq (v := (.bool true)) hF121 (wantedS rfl) (run_mv rfl (hF121.ev 148 rfl)) rfl (by decide) fun a122 hF122 => ?_
        refine sq (v := (.string ⟨o.toArray⟩)) hF122 (wantedG hF122 rfl rfl rfl rfl rfl) (run_mv rfl (hF122.ev 6 rfl)) rfl (by decide) fun a123 hF123 => ?_
        refine sq (v := (.string ⟨h.toArray⟩)) hF123 (wantedG hF123 rfl rfl rfl rfl rfl) (run_mv rfl (hF123.ev 2 rfl)) rfl (by decide) fun a124 hF124 => ?_
        refine sq (v := (.bool true)) hF124 (wantedG hF124 rfl rfl rfl rfl rfl) (run_nes rfl (hF124.ev 150 rfl) (hF124.ev 151 rfl) (by rw [beq_eq_false_iff_ne.2 (fun e => hz3 (by rw [e, hso]))]; rfl)) rfl (by decide) fun a125 hF125 => ?_
        refine sq (v := (.bool true)) hF125 (wantedS rfl) (run_pick rfl (hF125.ev 149 rfl) (hF125.ev 152 rfl) rfl) rfl (by decide) fun a126 hF126 => ?_
        refine sq (v := (.bool true)) hF126 (wantedS rfl) (run_mv rfl (hF126.ev 153 rfl)) rfl (by decide) fun a127 hF127 => ?_
        refine sqC (v := (.bool true)) hF127 hM11 (wantedG hF127 rfl rfl rfl rfl rfl) (run_call rfl Tryd.func12 (by kernel_rfl) rfl (mapE0 )) rfl (by decide) (awake_any w11 (HG.below hM11.below)) fun a128 w12 hb12 hF128 hM12 => ?_
        refine sq (v := (.bool true)) hF128 (wantedS rfl) (run_pick rfl (hF128.ev 154 rfl) (hF128.ev 155 rfl) rfl) rfl (by decide) fun a129 hF129 => ?_
        refine sq (v := (.bool true)) hF129 (wantedS rfl) (run_as rfl (hF129.ev 156 rfl)) rfl (by decide) fun a130 hF130 => ?_
        refine sqEnd ?_
        clear hF115 hF116 hF117 hF118 hF119 hF120 hF121 hF122 hF123 hF124 hF125 hF126 hF127 hF128 hF129 hM11
        refine nx ?_
        refine wp_ret ?_
        refine nxRet ?_
        exact ret1 hF130 rfl rfl ⟨rfl, hM12.below⟩
    · skip
      refine wp_region_lit ?_
      refine sq (v := (.int .i64 ((openS k h (S.take n)).2))) hF93 (wantedS rfl) (run_mv rfl (hF93.ev 25 rfl)) rfl (by decide) fun a94 hF94 => ?_
      refine sq (v := (.bool true)) hF94 (wantedS rfl) (run_nei rfl (hF94.ev 111 rfl) rfl (bne_iff_ne.2 (by omega))) rfl (by decide) fun a95 hF95 => ?_
      refine sqEnd ?_
      clear hF93 hF94
      refine nx ?_
      refine wp_cond_true (hF95.ev 112 rfl) ?_
      refine wp_seq ?_
      refine wp_region_lit ?_
      refine sq (v := (.agg (cells8 k))) hF95 (wantedS rfl) (run_ldB rfl (hF95.ev 7 rfl) (hM9.at 2 rfl) Tryd.underlying23 rfl sz32k (szOf hLk)) rfl (by decide) fun a96 hF96 => ?_
      refine sq (v := (.string ⟨h.toArray⟩)) hF96 (wantedS rfl) (run_mv rfl (hF96.ev 2 rfl)) rfl (by decide) fun a97 hF97 => ?_
      refine sq (v := (.string ⟨(S.take n).toArray⟩)) hF97 (wantedS rfl) (run_mv rfl (hF97.ev 17 rfl)) rfl (by decide) fun a98 hF98 => ?_
      refine sqC (v := (.tuple #[(.string ⟨((openS k h (S.take n)).1).toArray⟩), (.int .i64 ((openS k h (S.take n)).2))])) hF98 hM9 (wantedS rfl) (run_call rfl Tryd.func14 (by kernel_rfl) rfl (mapE3 (hF98.ev 114 rfl) (hF98.ev 115 rfl) (hF98.ev 116 rfl))) rfl (by decide) (sopen_any k h (S.take n) w9 (HG.below hM9.below) hLk (by first | omega | decide | (simp; omega))) fun a99 w10 hb10 hF99 hM10 => ?_
      refine sq (v := (.tuple #[(.string ⟨((openS k h (S.take n)).1).toArray⟩), (.int .i64 ((openS k h (S.take n)).2))])) hF99 (wantedS rfl) (run_mv rfl (hF99.ev 117 rfl)) rfl (by decide) fun a100 hF100 => ?_
      refine sq (v := (.string ⟨((openS k h (S.take n)).1).toArray⟩)) hF100 (wantedS rfl) (run_ext rfl (hF100.ev 113 rfl) rfl) rfl (by decide) fun a101 hF101 => ?_
      refine sq (v := (.int .i64 ((openS k h (S.take n)).2))) hF101 (wantedS rfl) (run_ext rfl (hF101.ev 113 rfl) rfl) rfl (by decide) fun a102 hF102 => ?_
      refine sq (v := (.string ⟨((openS k h (S.take n)).1).toArray⟩)) hF102 (wantedS rfl) (run_as rfl (hF102.ev 118 rfl)) rfl (by decide) fun a103 hF103 => ?_
      refine sq (v := (.int .i64 ((openS k h (S.take n)).2))) hF103 (wantedS rfl) (run_as rfl (hF103.ev 119 rfl)) rfl (by decide) fun a104 hF104 => ?_
      refine sqEnd ?_
      clear hF95 hF96 hF97 hF98 hF99 hF100 hF101 hF102 hF103 hM9
      refine nx ?_
      refine wp_seq ?_
      refine wp_region_lit ?_
      refine sq (v := (.string ⟨((openS k h (S.take n)).1).toArray⟩)) hF104 (wantedS rfl) (run_mv rfl (hF104.ev 26 rfl)) rfl (by decide) fun a105 hF105 => ?_
      refine sq (v := (.bool false)) hF105 (wantedS rfl) (run_nes rfl (hF105.ev 120 rfl) rfl (by rw [openS_or k h (S.take n) hz2]; rfl)) rfl (by decide) fun a106 hF106 => ?_
      refine sq (v := (.bool false)) hF106 (wantedS rfl) (run_mv rfl (hF106.ev 121 rfl)) rfl (by decide) fun a107 hF107 => ?_
      refine sq (v := (.int .i64 ((openS k h (S.take n)).2))) hF107 (wantedG hF107 rfl rfl rfl rfl rfl) (run_mv rfl (hF107.ev 27 rfl)) rfl (by decide) fun a108 hF108 => ?_
      refine sq (v := (.int .i64 ((openS k h (S.take n)).2))) hF108 (wantedG hF108 rfl rfl rfl rfl rfl) (run_mv rfl (hF108.ev 25 rfl)) rfl (by decide) fun a109 hF109 => ?_
      refine sq (v := (.bool false)) hF109 (wantedG hF109 rfl rfl rfl rfl rfl) (run_nei rfl (hF109.ev 123 rfl) (hF109.ev 124 rfl) (bne_self_eq_false _)) rfl (by decide) fun a110 hF110 => ?_
      refine sq (v := (.bool false)) hF110 (wantedS rfl) (run_pick rfl (hF110.ev 122 rfl) rfl (hF110.ev 125 rfl)) rfl (by decide) fun a111 hF111 => ?_
      refine sqEnd ?_
      clear hF104 hF105 hF106 hF107 hF108 hF109 hF110
      refine nx ?_
      refine wp_cond_false (hF111.ev 126 rfl) ?_
      refine wp_skip ?_
      refine nx ?_
      refine wp_seq ?_
      refine wp_seq ?_
      refine wp_region_lit ?_
      refine sq (v := (.agg (cells8 k))) hF111 (wantedS rfl) (run_ldB rfl (hF111.ev 7 rfl) (hM10.at 2 rfl) Tryd.underlying23 rfl sz32k (szOf hLk)) rfl (by decide) fun a112 hF112 => ?_
      refine sq (v := (.string ⟨o.toArray⟩)) hF112 (wantedS rfl) (run_mv rfl (hF112.ev 6 rfl)) rfl (by decide) fun a113 hF113 => ?_
      refine sq (v := (.string ⟨S.toArray⟩)) hF113 (wantedS rfl) (run_mv rfl (hF113.ev 19 rfl)) rfl (by decide) fun a114 hF114 => ?_
      refine sqC (v := (.tuple #[(.string ⟨((openS k o S).1).toArray⟩), (.int .i64 ((openS k o S).2))])) hF114 hM10 (wantedS rfl) (run_call rfl Tryd.func16 (by kernel_rfl) rfl (mapE3 (hF114.ev 128 rfl) (hF114.ev 129 rfl) (hF114.ev 130 rfl))) rfl (by decide) (ropen_any k o S w10 hLk (by first | omega | decide | (simp; omega))) fun a115 w11 hb11 hF115 hM11 => ?_
      refine sq (v := (.tuple #[(.string ⟨((openS k o S).1).toArray⟩), (.int .i64 ((openS k o S).2))])) hF115 (wantedS rfl) (run_mv rfl (hF115.ev 131 rfl)) rfl (by decide) fun a116 hF116 => ?_
      refine sq (v := (.string ⟨((openS k o S).1).toArray⟩)) hF116 (wantedS rfl) (run_ext rfl (hF116.ev 127 rfl) rfl) rfl (by decide) fun a117 hF117 => ?_
      refine sq (v := (.int .i64 ((openS k o S).2))) hF117 (wantedS rfl) (run_ext rfl (hF117.ev 127 rfl) rfl) rfl (by decide) fun a118 hF118 => ?_
      refine sq (v := (.string ⟨((openS k o S).1).toArray⟩)) hF118 (wantedS rfl) (run_as rfl (hF118.ev 132 rfl)) rfl (by decide) fun a119 hF119 => ?_
      refine sq (v := (.int .i64 ((openS k o S).2))) hF119 (wantedS rfl) (run_as rfl (hF119.ev 133 rfl)) rfl (by decide) fun a120 hF120 => ?_
      refine sqEnd ?_
      clear hF111 hF112 hF113 hF114 hF115 hF116 hF117 hF118 hF119 hM10
      refine nx ?_
      refine wp_seq ?_
      by_cases hz3 : (openS k o S).2 = 0
      · skip
        refine wp_region_lit ?_
        refine sq (v := (.int .i64 ((openS k o S).2))) hF120 (wantedS rfl) (run_mv rfl (hF120.ev 29 rfl)) rfl (by decide) fun a121 hF121 => ?_
        refine sq (v := (.bool false)) hF121 (wantedS rfl) (run_nei rfl (hF121.ev 134 rfl) rfl (by rw [bne_eq_false_iff_eq]; omega)) rfl (by decide) fun a122 hF122 => ?_
        refine sqEnd ?_
        clear hF120 hF121
        refine nx ?_
        refine wp_cond_false (hF122.ev 135 rfl) ?_
        refine wp_skip ?_
        refine nx ?_
        refine wp_seq ?_
        refine wp_region_lit ?_
        refine sqC (v := (.bool true)) hF122 hM11 (wantedS rfl) (run_call rfl Tryd.func12 (by kernel_rfl) rfl (mapE0 )) rfl (by decide) (awake_any w11 (HG.below hM11.below)) fun a123 w12 hb12 hF123 hM12 => ?_
        refine sq (v := (.bool true)) hF123 (wantedS rfl) (run_as rfl (hF123.ev 157 rfl)) rfl (by decide) fun a124 hF124 => ?_
        refine sqEnd ?_
        clear hF122 hF123 hM11
        refine nx ?_
        refine wp_ret ?_
        exact ret1 hF124 rfl rfl ⟨rfl, hM12.below⟩
      · skip
        refine wp_region_lit ?_
        refine sq (v := (.int .i64 ((openS k o S).2))) hF120 (wantedS rfl) (run_mv rfl (hF120.ev 29 rfl)) rfl (by decide) fun a121 hF121 => ?_
        refine sq (v := (.bool true)) hF121 (wantedS rfl) (run_nei rfl (hF121.ev 134 rfl) rfl (bne_iff_ne.2 (by omega))) rfl (by decide) fun a122 hF122 => ?_
        refine sqEnd ?_
        clear hF120 hF121
        refine nx ?_
        refine wp_cond_true (hF122.ev 135 rfl) ?_
        refine wp_seq ?_
        refine wp_region_lit ?_
        refine sq (v := (.agg (cells8 k))) hF122 (wantedS rfl) (run_ldB rfl (hF122.ev 7 rfl) (hM11.at 2 rfl) Tryd.underlying23 rfl sz32k (szOf hLk)) rfl (by decide) fun a123 hF123 => ?_
        refine sq (v := (.string ⟨o.toArray⟩)) hF123 (wantedS rfl) (run_mv rfl (hF123.ev 6 rfl)) rfl (by decide) fun a124 hF124 => ?_
        refine sq (v := (.string ⟨S.toArray⟩)) hF124 (wantedS rfl) (run_mv rfl (hF124.ev 19 rfl)) rfl (by decide) fun a125 hF125 => ?_
        refine sqC (v := (.tuple #[(.string ⟨((openS k o S).1).toArray⟩), (.int .i64 ((openS k o S).2))])) hF125 hM11 (wantedS rfl) (run_call rfl Tryd.func14 (by kernel_rfl) rfl (mapE3 (hF125.ev 137 rfl) (hF125.ev 138 rfl) (hF125.ev 139 rfl))) rfl (by decide) (sopen_any k o S w11 (HG.below hM11.below) hLk (by first | omega | decide | (simp; omega))) fun a126 w12 hb12 hF126 hM12 => ?_
        refine sq (v := (.tuple #[(.string ⟨((openS k o S).1).toArray⟩), (.int .i64 ((openS k o S).2))])) hF126 (wantedS rfl) (run_mv rfl (hF126.ev 140 rfl)) rfl (by decide) fun a127 hF127 => ?_
        refine sq (v := (.string ⟨((openS k o S).1).toArray⟩)) hF127 (wantedS rfl) (run_ext rfl (hF127.ev 136 rfl) rfl) rfl (by decide) fun a128 hF128 => ?_
        refine sq (v := (.int .i64 ((openS k o S).2))) hF128 (wantedS rfl) (run_ext rfl (hF128.ev 136 rfl) rfl) rfl (by decide) fun a129 hF129 => ?_
        refine sq (v := (.string ⟨((openS k o S).1).toArray⟩)) hF129 (wantedS rfl) (run_as rfl (hF129.ev 141 rfl)) rfl (by decide) fun a130 hF130 => ?_
        refine sq (v := (.int .i64 ((openS k o S).2))) hF130 (wantedS rfl) (run_as rfl (hF130.ev 142 rfl)) rfl (by decide) fun a131 hF131 => ?_
        refine sqEnd ?_
        clear hF122 hF123 hF124 hF125 hF126 hF127 hF128 hF129 hF130 hM11
        refine nx ?_
        refine wp_seq ?_
        have h5 := openS_long k o S (by omega) hz3
        refine wp_region_lit ?_
        refine sq (v := (.string ⟨((openS k o S).1).toArray⟩)) hF131 (wantedS rfl) (run_mv rfl (hF131.ev 30 rfl)) rfl (by decide) fun a132 hF132 => ?_
        refine sq (v := (.bool true)) hF132 (wantedS rfl) (run_eqs rfl (hF132.ev 143 rfl) rfl (by rw [openS_or k o S hz3]; rfl)) rfl (by decide) fun a133 hF133 => ?_
        refine sq (v := (.bool true)) hF133 (wantedS rfl) (run_mv rfl (hF133.ev 144 rfl)) rfl (by decide) fun a134 hF134 => ?_
        refine sq (v := (.int .i64 ((openS k o S).2))) hF134 (wantedG hF134 rfl rfl rfl rfl rfl) (run_mv rfl (hF134.ev 31 rfl)) rfl (by decide) fun a135 hF135 => ?_
        refine sq (v := (.bool true)) hF135 (wantedG hF135 rfl rfl rfl rfl rfl) (run_eqi rfl (hF135.ev 146 rfl) rfl (beq_iff_eq.2 (by omega))) rfl (by decide) fun a136 hF136 => ?_
        refine sq (v := (.bool true)) hF136 (wantedS rfl) (run_pick rfl (hF136.ev 145 rfl) (hF136.ev 147 rfl) rfl) rfl (by decide) fun a137 hF137 => ?_
        refine sq (v := (.bool true)) hF137 (wantedS rfl) (run_mv rfl (hF137.ev 148 rfl)) rfl (by decide) fun a138 hF138 => ?_
        refine sq (v := (.string ⟨o.toArray⟩)) hF138 (wantedG hF138 rfl rfl rfl rfl rfl) (run_mv rfl (hF138.ev 6 rfl)) rfl (by decide) fun a139 hF139 => ?_
        refine sq (v := (.string ⟨h.toArray⟩)) hF139 (wantedG hF139 rfl rfl rfl rfl rfl) (run_mv rfl (hF139.ev 2 rfl)) rfl (by decide) fun a140 hF140 => ?_
        refine sq (v := (.bool true)) hF140 (wantedG hF140 rfl rfl rfl rfl rfl) (run_nes rfl (hF140.ev 150 rfl) (hF140.ev 151 rfl) (by rw [beq_eq_false_iff_ne.2 (fun e => hz3 (by rw [e, hso]))]; rfl)) rfl (by decide) fun a141 hF141 => ?_
        refine sq (v := (.bool true)) hF141 (wantedS rfl) (run_pick rfl (hF141.ev 149 rfl) (hF141.ev 152 rfl) rfl) rfl (by decide) fun a142 hF142 => ?_
        refine sq (v := (.bool true)) hF142 (wantedS rfl) (run_mv rfl (hF142.ev 153 rfl)) rfl (by decide) fun a143 hF143 => ?_
        refine sqC (v := (.bool true)) hF143 hM12 (wantedG hF143 rfl rfl rfl rfl rfl) (run_call rfl Tryd.func12 (by kernel_rfl) rfl (mapE0 )) rfl (by decide) (awake_any w12 (HG.below hM12.below)) fun a144 w13 hb13 hF144 hM13 => ?_
        refine sq (v := (.bool true)) hF144 (wantedS rfl) (run_pick rfl (hF144.ev 154 rfl) (hF144.ev 155 rfl) rfl) rfl (by decide) fun a145 hF145 => ?_
        refine sq (v := (.bool true)) hF145 (wantedS rfl) (run_as rfl (hF145.ev 156 rfl)) rfl (by decide) fun a146 hF146 => ?_
        refine sqEnd ?_
        clear hF131 hF132 hF133 hF134 hF135 hF136 hF137 hF138 hF139 hF140 hF141 hF142 hF143 hF144 hF145 hM12
        refine nx ?_
        refine wp_ret ?_
        refine nxRet ?_
        exact ret1 hF146 rfl rfl ⟨rfl, hM13.below⟩
end Go.Proofs.YtnkklogkjnfjgaaDoor
