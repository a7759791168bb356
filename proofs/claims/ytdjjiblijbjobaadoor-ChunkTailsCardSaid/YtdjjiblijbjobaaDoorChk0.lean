/- keys.Box and chunk.Seal without keys, and the examples of layer 39. Printed by gen_chk1.py. -/
import Derived.Test.YtdjjiblijbjobaaDoorRoll1
import Derived.Test.YtdjjiblijbjobaaDoorEqBox
import Derived.Test.YtdjjiblijbjobaaDoorMakeY
namespace Go.Proofs.YtdjjiblijbjobaaDoor
open Go.RowKit

theorem sz32kk : (Tryd.prog.info? 50).map (·.size) = some 32 := by kernel_rfl
theorem szKeys : (Tryd.prog.info? 31).map (·.size) = some 1 := by kernel_rfl
theorem cut_small {b : List UInt8} (h0 : b ≠ []) (h : b.length < 64) : cutS b = [b] := by
  have hp := endS_pos h0
  have hle := endS_le b
  have he := endS_min b (by omega)
  rw [cutS_cons h0, he, List.take_length, List.drop_length, cutS_nil]
set_option maxRecDepth 100000 in
set_option maxHeartbeats 1000000 in
theorem kbox_none (w : World) : Calls Tryd.prog 38 #[.agg #[.slice none 0 0], .int .i64 (-1)] w fun e w' => e = .returned (.tuple #[.agg (cells8 (List.replicate 32 0)), .int .i64 1]) ∧ Below w.heap.size w w' := by
  refine walk_enter Tryd.func38 rfl rfl rfl fun a0 hF0 => ?_
  have hM0 := Mem.new w
  refine wp_seq ?_
  refine wp_region_lit ?_
  refine sqNew (cs := #[.slice none 0 0]) (t := 31) hF0 hM0 (wantedS rfl) (run_box rfl (hF0.ev 0 rfl)) rfl (by decide) fun g0 a1 w1 hgg0 hb1 hF1 hM1 => ?_
  refine sqNew (cs := (cells8 (List.replicate 32 0))) (t := 50) hF1 hM1 (wantedS rfl) (run_alloc rfl (by kernel_rfl)) rfl (by decide) fun g1 a2 w2 hgg1 hb2 hF2 hM2 => ?_
  refine sq (v := (.int .i64 0)) hF2 (wantedS rfl) (run_as rfl rfl) rfl (by decide) fun a3 hF3 => ?_
  refine sqEnd ?_
  clear hF0 hF1 hF2 hM0 hM1
  refine nx ?_
  refine wp_seq ?_
  refine wp_seq ?_
  refine wp_region_lit ?_
  refine sq (v := (.int .i64 (-1))) hF3 (wantedS rfl) (run_mv rfl (hF3.ev 1 rfl)) rfl (by decide) fun a4 hF4 => ?_
  refine sq (v := (.bool true)) hF4 (wantedS rfl) (run_lss rfl (hF4.ev 6 rfl) rfl (by decide)) rfl (by decide) fun a5 hF5 => ?_
  refine sq (v := (.bool true)) hF5 (wantedS rfl) (run_mv rfl (hF5.ev 7 rfl)) rfl (by decide) fun a6 hF6 => ?_
  refine sqSkip hF6 (unwantedG hF6 rfl rfl rfl rfl rfl) rfl (by decide) fun a7 hF7 => ?_
  refine sqSkip hF7 (unwantedG hF7 rfl rfl rfl rfl rfl) rfl (by decide) fun a8 hF8 => ?_
  refine sqSkip hF8 (unwantedG hF8 rfl rfl rfl rfl rfl) rfl (by decide) fun a9 hF9 => ?_
  refine sqSkip hF9 (unwantedG hF9 rfl rfl rfl rfl rfl) rfl (by decide) fun a10 hF10 => ?_
  refine sqSkip hF10 (unwantedG hF10 rfl rfl rfl rfl rfl) rfl (by decide) fun a11 hF11 => ?_
  refine sq (v := (.bool true)) hF11 (wantedS rfl) (run_pick rfl (hF11.ev 8 rfl) rfl (hF11.ev 13 rfl)) rfl (by decide) fun a12 hF12 => ?_
  refine sqEnd ?_
  clear hF3 hF4 hF5 hF6 hF7 hF8 hF9 hF10 hF11
  refine nx ?_
  refine wp_cond_true (hF12.ev 14 rfl) ?_
  refine wp_seq ?_
  refine wp_region_lit ?_
  refine sq (v := (.agg (cells8 (List.replicate 32 0)))) hF12 (wantedS rfl) (run_blt (vs := #[]) (cs := cells8 (List.replicate 32 0)) rfl (by simp) (by kernel_rfl)) rfl (by decide) fun a13 hF13 => ?_
  refine sqStore (i := 0) hF13 hM2 rfl rfl rfl (hF13.ev 4 rfl) (hF13.ev 15 rfl) rfl sz32kk (szOf List.length_replicate) (szOf List.length_replicate) (cells8_one _) fun a14 w3 hF14 hM3 => ?_
  refine sq (v := (.int .i64 1)) hF14 (wantedS rfl) (run_as rfl rfl) rfl (by decide) fun a15 hF15 => ?_
  refine sqEnd ?_
  clear hF12 hF13 hF14 hM2
  refine nx ?_
  refine wp_ret ?_
  refine nxRet ?_
  exact retBT hF15 rfl rfl (hM3.at 0 rfl) Tryd.underlying50 rfl sz32kk (szOf List.length_replicate) rfl ⟨rfl, hM3.below⟩
set_option maxRecDepth 100000 in
set_option maxHeartbeats 1000000 in
theorem cseal_none (w : World) : Calls Tryd.prog 18 #[.agg #[.slice none 0 0], .string ⟨List.toArray [97]⟩] w fun e w' => e = .returned (.tuple #[.agg #[.string ⟨List.toArray []⟩, .string ⟨List.toArray []⟩], .int .i64 1]) ∧ Below w.heap.size w w' := by
  refine walk_enter Tryd.func18 rfl rfl rfl fun a0 hF0 => ?_
  have hM0 := Mem.new w
  refine wp_seq ?_
  refine wp_region_lit ?_
  refine sqNew (cs := #[.slice none 0 0]) (t := 31) hF0 hM0 (wantedS rfl) (run_box rfl (hF0.ev 0 rfl)) rfl (by decide) fun g0 a1 w1 hgg0 hb1 hF1 hM1 => ?_
  refine sqNew (cs := #[.string ⟨List.toArray []⟩, .string ⟨List.toArray []⟩]) (t := 36) hF1 hM1 (wantedS rfl) (run_alloc rfl (by kernel_rfl)) rfl (by decide) fun g1 a2 w2 hgg1 hb2 hF2 hM2 => ?_
  refine sq (v := (.int .i64 0)) hF2 (wantedS rfl) (run_as rfl rfl) rfl (by decide) fun a3 hF3 => ?_
  refine sqEnd ?_
  clear hF0 hF1 hF2 hM0 hM1
  refine nx ?_
  refine wp_seq ?_
  refine wp_seq ?_
  refine wp_region_lit ?_
  refine sq (v := (.string ⟨List.toArray [97]⟩)) hF3 (wantedS rfl) (run_mv rfl (hF3.ev 1 rfl)) rfl (by decide) fun a4 hF4 => ?_
  refine sq (v := (.int .i64 1)) hF4 (wantedS rfl) (run_len rfl (hF4.ev 12 rfl) rfl Tryd.underlying9) rfl (by decide) fun a5 hF5 => ?_
  refine sq (v := (.bool false)) hF5 (wantedS rfl) (run_gtr rfl (hF5.ev 13 rfl) rfl (by decide)) rfl (by decide) fun a6 hF6 => ?_
  refine sqEnd ?_
  clear hF3 hF4 hF5
  refine nx ?_
  refine wp_cond_false (hF6.ev 14 rfl) ?_
  refine wp_skip ?_
  refine nx ?_
  refine wp_seq ?_
  refine wp_region_lit ?_
  refine sq (v := (.pointer (some ⟨g0, 0, none⟩))) hF6 (wantedS rfl) (run_fldA (m := 1) (s := 0) rfl (hF6.ev 2 rfl) Tryd.underlying31 rfl rfl (by kernel_rfl) (by decide)) rfl (by decide) fun a7 hF7 => ?_
  refine sq (v := (.slice none 0 0)) hF7 (wantedS rfl) (run_ldF rfl (hF7.ev 16 rfl) (hM2.at 1 rfl) rfl (by kernel_rfl)) rfl (by decide) fun a8 hF8 => ?_
  refine sq (v := (.int .i64 0)) hF8 (wantedS rfl) (run_lenSl rfl (hF8.ev 17 rfl) rfl Tryd.underlying29) rfl (by decide) fun a9 hF9 => ?_
  refine sq (v := (.int .i64 (-1))) hF9 (wantedS rfl) (run_sub (r := -1) rfl (hF9.ev 18 rfl) rfl (by rw [IntKind.wrap_i64]; omega)) rfl (by decide) fun a10 hF10 => ?_
  refine sq (v := (.int .i64 (-1))) hF10 (wantedS rfl) (run_as rfl (hF10.ev 19 rfl)) rfl (by decide) fun a11 hF11 => ?_
  refine sqEnd ?_
  clear hF6 hF7 hF8 hF9 hF10
  refine nx ?_
  refine wp_seq ?_
  refine wp_region_lit ?_
  refine sq (v := (.agg #[.slice none 0 0])) hF11 (wantedS rfl) (run_ldB rfl (hF11.ev 2 rfl) (hM2.at 1 rfl) Tryd.underlying31 rfl szKeys rfl) rfl (by decide) fun a12 hF12 => ?_
  refine sq (v := (.int .i64 (-1))) hF12 (wantedS rfl) (run_mv rfl (hF12.ev 6 rfl)) rfl (by decide) fun a13 hF13 => ?_
  refine sqC (v := (.tuple #[(.agg (cells8 (List.replicate 32 0))), (.int .i64 1)])) hF13 hM2 (wantedS rfl) (run_call rfl Tryd.func38 (by kernel_rfl) rfl (mapE2 (hF13.ev 21 rfl) (hF13.ev 22 rfl))) rfl (by decide) (kbox_none w2) fun a14 w3 hb3 hF14 hM3 => ?_
  refine sq (v := (.tuple #[(.agg (cells8 (List.replicate 32 0))), (.int .i64 1)])) hF14 (wantedS rfl) (run_mv rfl (hF14.ev 23 rfl)) rfl (by decide) fun a15 hF15 => ?_
  refine sq (v := (.agg (cells8 (List.replicate 32 0)))) hF15 (wantedS rfl) (run_ext rfl (hF15.ev 20 rfl) rfl) rfl (by decide) fun a16 hF16 => ?_
  refine sq (v := (.int .i64 1)) hF16 (wantedS rfl) (run_ext rfl (hF16.ev 20 rfl) rfl) rfl (by decide) fun a17 hF17 => ?_
  refine sqNew (cs := (cells8 (List.replicate 32 0))) (t := 50) hF17 hM3 (wantedS rfl) (run_alloc rfl (by kernel_rfl)) rfl (by decide) fun g2 a18 w4 hgg2 hb4 hF18 hM4 => ?_
  refine sqStore (i := 0) hF18 hM4 rfl rfl rfl (hF18.ev 7 rfl) (hF18.ev 24 rfl) rfl sz32kk (szOf List.length_replicate) (szOf List.length_replicate) (cells8_one _) fun a19 w5 hF19 hM5 => ?_
  refine sq (v := (.int .i64 1)) hF19 (wantedS rfl) (run_as rfl (hF19.ev 25 rfl)) rfl (by decide) fun a20 hF20 => ?_
  refine sqEnd ?_
  clear hF11 hF12 hF13 hF14 hF15 hF16 hF17 hF18 hF19 hM2 hM3 hM4
  refine nx ?_
  refine wp_seq ?_
  refine wp_seq ?_
  refine wp_region_lit ?_
  refine sq (v := (.int .i64 1)) hF20 (wantedS rfl) (run_mv rfl (hF20.ev 8 rfl)) rfl (by decide) fun a21 hF21 => ?_
  refine sq (v := (.bool true)) hF21 (wantedS rfl) (run_nei rfl (hF21.ev 26 rfl) rfl rfl) rfl (by decide) fun a22 hF22 => ?_
  refine sqEnd ?_
  clear hF20 hF21
  refine nx ?_
  refine wp_cond_true (hF22.ev 27 rfl) ?_
  refine wp_seq ?_
  refine wp_region_lit ?_
  refine sq (v := (.agg #[.string ⟨List.toArray []⟩, .string ⟨List.toArray []⟩])) hF22 (wantedS rfl) (run_blt (vs := #[]) (cs := #[.string ⟨List.toArray []⟩, .string ⟨List.toArray []⟩]) rfl (by simp) (by kernel_rfl)) rfl (by decide) fun a23 hF23 => ?_
  refine sq (v := (.int .i64 1)) hF23 (wantedS rfl) (run_mv rfl (hF23.ev 8 rfl)) rfl (by decide) fun a24 hF24 => ?_
  refine sqStore (i := 1) hF24 hM5 rfl rfl rfl (hF24.ev 4 rfl) (hF24.ev 28 rfl) rfl szBox rfl rfl (arr_one rfl) fun a25 w6 hF25 hM6 => ?_
  refine sq (v := (.int .i64 1)) hF25 (wantedS rfl) (run_as rfl (hF25.ev 29 rfl)) rfl (by decide) fun a26 hF26 => ?_
  refine sqEnd ?_
  clear hF22 hF23 hF24 hF25 hM5
  refine nx ?_
  refine wp_ret ?_
  refine nxRet ?_
  exact retBT hF26 rfl rfl (hM6.at 1 rfl) Tryd.underlying36 rfl szBox rfl rfl ⟨rfl, hM6.below⟩
set_option maxRecDepth 100000 in
set_option maxHeartbeats 1000000 in
theorem fixed39_any (w : World) : Calls Tryd.prog 11 #[] w fun e w' => e = .returned (.bool true) ∧ Below w.heap.size w w' := by
  have hXl : ((List.replicate 63 0).take 63 : List UInt8).length = 63 := rfl
  have hcut : cutS ((List.replicate 63 0).take 63) = [((List.replicate 63 0).take 63)] := cut_small (by intro h; rw [h] at hXl; cases hXl) (by omega)
  refine walk_enter Tryd.func11 rfl rfl rfl fun a0 hF0 => ?_
  have hM0 := Mem.new w
  refine wp_seq ?_
  refine wp_region_lit ?_
  refine sq (v := (.bool false)) hF0 (wantedS rfl) (run_as rfl rfl) rfl (by decide) fun a1 hF1 => ?_
  refine sqEnd ?_
  clear hF0
  refine nx ?_
  refine wp_seq ?_
  refine wp_region_lit ?_
  refine sqMakeY (m := 63) hF1 hM0 rfl rfl rfl rfl rfl rfl (by omega) rfl (by decide) fun g0 a2 w1 hgg0 hb1 hF2 hM1 => ?_
  refine sq (v := (.string ⟨((List.replicate 63 0).take 63).toArray⟩)) hF2 (wantedS rfl) (run_cv rfl (hF2.ev 4 rfl) (run_strY (j := 63) (hM1.ob 0 rfl) (by first | omega | (simp; done)))) rfl (by decide) fun a3 hF3 => ?_
  refine sqT (T := fun u wx => wx.ownsRow w1.heap.size 9 1 u [((List.replicate 63 0).take 63)].length ([((List.replicate 63 0).take 63)].map tx) ∧ Below w1.heap.size w1 wx) hF3 (wantedS rfl) (run_call rfl Tryd.func12 (by kernel_rfl) rfl (mapE1 (hF3.ev 5 rfl))) rfl (by decide) (by have h := ccut_any ((List.replicate 63 0).take 63) w1 (by decide); rwa [hcut] at h) fun u1 a4 w2 hT2 hF4 => ?_
  obtain ⟨hr2, hb2⟩ := hT2
  have hO1 := OwnR.ofCall hM1 hr2
  have hM2 := hM1.grow hb2
  refine sq (v := u1) hF4 (wantedS rfl) (run_as rfl (hF4.ev 6 rfl)) rfl (by decide) fun a5 hF5 => ?_
  refine sqEnd ?_
  clear hF1 hF2 hF3 hF4 hM0 hM1
  refine nx ?_
  refine wp_seq ?_
  refine wp_region_lit ?_
  refine sq (v := (.agg #[.slice none 0 0])) hF5 (wantedS rfl) (run_blt (vs := #[]) (cs := #[.slice none 0 0]) rfl (by simp) (by kernel_rfl)) rfl (by decide) fun a6 hF6 => ?_
  refine sqC (v := (.tuple #[(.agg #[.string ⟨List.toArray []⟩, .string ⟨List.toArray []⟩]), (.int .i64 1)])) hF6 hM2 (wantedS rfl) (run_call rfl Tryd.func18 (by kernel_rfl) rfl (mapE2 (hF6.ev 8 rfl) rfl)) rfl (by decide) (cseal_none w2) fun a7 w3 hb3 hF7 hM3 => ?_
  have hO2 := hO1.grow hb3
  refine sq (v := (.tuple #[(.agg #[.string ⟨List.toArray []⟩, .string ⟨List.toArray []⟩]), (.int .i64 1)])) hF7 (wantedS rfl) (run_mv rfl (hF7.ev 9 rfl)) rfl (by decide) fun a8 hF8 => ?_
  refine sq (v := (.agg #[.string ⟨List.toArray []⟩, .string ⟨List.toArray []⟩])) hF8 (wantedS rfl) (run_ext rfl (hF8.ev 7 rfl) rfl) rfl (by decide) fun a9 hF9 => ?_
  refine sq (v := (.int .i64 1)) hF9 (wantedS rfl) (run_ext rfl (hF9.ev 7 rfl) rfl) rfl (by decide) fun a10 hF10 => ?_
  refine sqNew (cs := #[.string ⟨List.toArray []⟩, .string ⟨List.toArray []⟩]) (t := 36) hF10 hM3 (wantedS rfl) (run_alloc rfl (by kernel_rfl)) rfl (by decide) fun g2 a11 w4 hgg2 hb4 hF11 hM4 => ?_
  have hO3 := hO2.add (S := isB 36 (#[.string ⟨List.toArray []⟩, .string ⟨List.toArray []⟩])) hb4 hgg2
  refine sqStoreG (i := 0) hF11 hM4 rfl rfl rfl (hF11.ev 2 rfl) (hF11.ev 10 rfl) rfl szBox rfl rfl (arr_one rfl) fun a12 w5 hgr5 hF12 hM5 => ?_
  have hO4 := hO3.upd 0 (S2 := isB 36 (#[.string ⟨List.toArray []⟩, .string ⟨List.toArray []⟩])) rfl hgr5
  refine sq (v := (.int .i64 1)) hF12 (wantedS rfl) (run_as rfl (hF12.ev 11 rfl)) rfl (by decide) fun a13 hF13 => ?_
  refine sqEnd ?_
  clear hF5 hF6 hF7 hF8 hF9 hF10 hF11 hF12 hM2 hM3 hM4
  refine nx ?_
  refine wp_seq ?_
  refine wp_region_lit ?_
  refine sq (v := u1) hF13 (wantedS rfl) (run_mv rfl (hF13.ev 1 rfl)) rfl (by decide) fun a14 hF14 => ?_
  refine sq (v := (.int .i64 1)) hF14 (wantedS rfl) (run_lenS rfl (hF14.ev 12 rfl) (Sl.own hO4) rfl Tryd.underlying23) rfl (by decide) fun a15 hF15 => ?_
  refine sq (v := (.bool true)) hF15 (wantedS rfl) (run_eqi rfl (hF15.ev 13 rfl) rfl (beq_self_eq_true _)) rfl (by decide) fun a16 hF16 => ?_
  refine sq (v := (.bool true)) hF16 (wantedS rfl) (run_mv rfl (hF16.ev 14 rfl)) rfl (by decide) fun a17 hF17 => ?_
  refine sq (v := u1) hF17 (wantedG hF17 rfl rfl rfl rfl rfl) (run_mv rfl (hF17.ev 1 rfl)) rfl (by decide) fun a18 hF18 => ?_
  refine sq (v := (slPtr u1 (0 * 1))) hF18 (wantedG hF18 rfl rfl rfl rfl rfl) (run_atP (i := 0) rfl (hF18.ev 16 rfl) rfl rfl (Sl.own hO4) (by simp) elStr.un (by kernel_rfl)) rfl (by decide) fun a19 hF19 => ?_
  refine sq (v := (.string ⟨((List.replicate 63 0).take 63).toArray⟩)) hF19 (wantedG hF19 rfl rfl rfl rfl rfl) (run_ldP rfl (hF19.ev 17 rfl) (Sl.own hO4) (map_at rfl) (by kernel_rfl)) rfl (by decide) fun a20 hF20 => ?_
  refine sq (v := (.int .i64 63)) hF20 (wantedG hF20 rfl rfl rfl rfl rfl) (run_len rfl (hF20.ev 18 rfl) rfl Tryd.underlying9) rfl (by decide) fun a21 hF21 => ?_
  refine sq (v := (.bool true)) hF21 (wantedG hF21 rfl rfl rfl rfl rfl) (run_eqi rfl (hF21.ev 19 rfl) rfl (beq_self_eq_true _)) rfl (by decide) fun a22 hF22 => ?_
  refine sq (v := (.bool true)) hF22 (wantedS rfl) (run_pick rfl (hF22.ev 15 rfl) (hF22.ev 20 rfl) rfl) rfl (by decide) fun a23 hF23 => ?_
  refine sq (v := (.bool true)) hF23 (wantedS rfl) (run_mv rfl (hF23.ev 21 rfl)) rfl (by decide) fun a24 hF24 => ?_
  refine sq (v := (.int .i64 1)) hF24 (wantedG hF24 rfl rfl rfl rfl rfl) (run_mv rfl (hF24.ev 3 rfl)) rfl (by decide) fun a25 hF25 => ?_
  refine sq (v := (.bool true)) hF25 (wantedG hF25 rfl rfl rfl rfl rfl) (run_eqi rfl (hF25.ev 23 rfl) rfl (beq_self_eq_true _)) rfl (by decide) fun a26 hF26 => ?_
  refine sq (v := (.bool true)) hF26 (wantedS rfl) (run_pick rfl (hF26.ev 22 rfl) (hF26.ev 24 rfl) rfl) rfl (by decide) fun a27 hF27 => ?_
  refine sq (v := (.bool true)) hF27 (wantedS rfl) (run_mv rfl (hF27.ev 25 rfl)) rfl (by decide) fun a28 hF28 => ?_
  refine sq (v := (.agg #[.string ⟨List.toArray []⟩, .string ⟨List.toArray []⟩])) hF28 (wantedG hF28 rfl rfl rfl rfl rfl) (run_ldB rfl (hF28.ev 2 rfl) (hM5.at 0 rfl) Tryd.underlying36 rfl szBox rfl) rfl (by decide) fun a29 hF29 => ?_
  refine sq (v := (.agg #[.string ⟨List.toArray []⟩, .string ⟨List.toArray []⟩])) hF29 (wantedG hF29 rfl rfl rfl rfl rfl) (run_blt (vs := #[]) (cs := #[.string ⟨List.toArray []⟩, .string ⟨List.toArray []⟩]) rfl (by simp) (by kernel_rfl)) rfl (by decide) fun a30 hF30 => ?_
  refine sq (v := (.bool true)) hF30 (wantedG hF30 rfl rfl rfl rfl rfl) (run_eqBox (s := []) (r := []) (s2 := []) (r2 := []) (by decide) rfl (hF30.ev 27 rfl) (hF30.ev 28 rfl)) rfl (by decide) fun a31 hF31 => ?_
  refine sq (v := (.bool true)) hF31 (wantedS rfl) (run_pick rfl (hF31.ev 26 rfl) (hF31.ev 29 rfl) rfl) rfl (by decide) fun a32 hF32 => ?_
  refine sq (v := (.bool true)) hF32 (wantedS rfl) (run_as rfl (hF32.ev 30 rfl)) rfl (by decide) fun a33 hF33 => ?_
  refine sqEnd ?_
  clear hF13 hF14 hF15 hF16 hF17 hF18 hF19 hF20 hF21 hF22 hF23 hF24 hF25 hF26 hF27 hF28 hF29 hF30 hF31 hF32
  refine nx ?_
  refine wp_ret ?_
  exact ret1 hF33 rfl rfl ⟨rfl, hM5.below⟩
end Go.Proofs.YtdjjiblijbjobaaDoor
