/- keys.Box and chunk.Seal without keys, and the examples of layer 39. Printed by gen_chk1.py. -/
import Derived.Test.YtdjjiblijbjobaaDoorRollB
import Derived.Test.YtdjjiblijbjobaaDoorEqBox
import Derived.Test.YtdjjiblijbjobaaDoorMakeY
namespace Go.Proofs.YtdjjiblijbjobaaDoor
open Go.RowKit

theorem sz32kk : (Tryd.prog.info? 50).map (·.size) = some 32 := by kernel_rfl
theorem szKeys : (Tryd.prog.info? 31).map (·.size) = some 1 := by kernel_rfl
theorem cut_small {b : List UInt8} (h0 : b ≠ []) (h : b.length < 64) : cutS b = [b] := by
  have hp := endS_pos h0
  have hle := endS_le b
  have he := endS_min b (by omega)
  rw [cutS_cons h0, he, List.take_length, List.drop_length, cutS_nil]
set_option maxRecDepth 100000 in
set_option maxHeartbeats 1000000 in
theorem kbox_none (w : World) : Calls Tryd.prog 38 #[.agg #[.slice none 0 0], .int .i64 (-1)] w fun e w' => e = .returned (.tuple #[.agg (cells8 (List.replicate 32 0)), .int .i64 1]) ∧ Below w.heap.size w w' := by
  refine walk_enter Tryd.func38 rfl rfl rfl fun a0 F0 => ?_
  have M0 := Mem.new w
  refine wsl ?_
  refine sqNew (cs := #[.slice none 0 0]) (t := 31) F0 M0 (wantedS rfl) (run_box rfl (F0.ev 0 rfl)) rfl (by decide) fun g0 a1 w1 hgg0 hb1 F1 M1 => ?_
  refine sqNew (cs := (cells8 (List.replicate 32 0))) (t := 50) F1 M1 (wantedS rfl) (run_alloc rfl (by kernel_rfl)) rfl (by decide) fun g1 a2 w2 hgg1 hb2 F2 M2 => ?_
  refine sr (v := (.int .i64 0)) F2 (run_as rfl rfl) rfl rfl rfl fun a3 F3 => ?_
  refine sn ?_
  clear F0 F1 F2 M0 M1
  refine wp_seq ?_
  refine wsl ?_
  refine mvS F3 rfl rfl rfl rfl rfl fun a4 F4 => ?_
  refine sr (v := (.bool true)) F4 (run_lss rfl (F4.ev 6 rfl) rfl (by decide)) rfl rfl rfl fun a5 F5 => ?_
  refine mvS F5 rfl rfl rfl rfl rfl fun a6 F6 => ?_
  refine sqSkip F6 (unwantedG F6 rfl rfl rfl rfl rfl) rfl (by decide) fun a7 F7 => ?_
  refine sqSkip F7 (unwantedG F7 rfl rfl rfl rfl rfl) rfl (by decide) fun a8 F8 => ?_
  refine sqSkip F8 (unwantedG F8 rfl rfl rfl rfl rfl) rfl (by decide) fun a9 F9 => ?_
  refine sqSkip F9 (unwantedG F9 rfl rfl rfl rfl rfl) rfl (by decide) fun a10 F10 => ?_
  refine sqSkip F10 (unwantedG F10 rfl rfl rfl rfl rfl) rfl (by decide) fun a11 F11 => ?_
  refine sr (v := (.bool true)) F11 (run_pick rfl (F11.ev 8 rfl) rfl (F11.ev 13 rfl)) rfl rfl rfl fun a12 F12 => ?_
  refine sn ?_
  clear F3 F4 F5 F6 F7 F8 F9 F10 F11
  refine wp_cond_true (F12.ev 14 rfl) ?_
  refine wsl ?_
  refine sr (v := (.agg (cells8 (List.replicate 32 0)))) F12 (run_blt (vs := #[]) (cs := cells8 (List.replicate 32 0)) rfl (by simp) (by kernel_rfl)) rfl rfl rfl fun a13 F13 => ?_
  refine sqStore (i := 0) F13 M2 rfl rfl rfl (F13.ev 4 rfl) (F13.ev 15 rfl) rfl sz32kk (szOf List.length_replicate) (szOf List.length_replicate) (cells8_one _) fun a14 w3 F14 M3 => ?_
  refine sr (v := (.int .i64 1)) F14 (run_as rfl rfl) rfl rfl rfl fun a15 F15 => ?_
  refine sn ?_
  clear F12 F13 F14 M2
  refine wp_ret ?_
  refine nxRet ?_
  exact retBT F15 rfl rfl (M3.at 0 rfl) Tryd.underlying50 rfl sz32kk (szOf List.length_replicate) rfl ⟨rfl, M3.below⟩
set_option maxRecDepth 100000 in
set_option maxHeartbeats 1000000 in
theorem cseal_none (w : World) : Calls Tryd.prog 18 #[.agg #[.slice none 0 0], .string ⟨List.toArray [97]⟩] w fun e w' => e = .returned (.tuple #[.agg #[.string ⟨List.toArray []⟩, .string ⟨List.toArray []⟩], .int .i64 1]) ∧ Below w.heap.size w w' := by
  refine walk_enter Tryd.func18 rfl rfl rfl fun a0 F0 => ?_
  have M0 := Mem.new w
  refine wsl ?_
  refine sqNew (cs := #[.slice none 0 0]) (t := 31) F0 M0 (wantedS rfl) (run_box rfl (F0.ev 0 rfl)) rfl (by decide) fun g0 a1 w1 hgg0 hb1 F1 M1 => ?_
  refine sqNew (cs := #[.string ⟨List.toArray []⟩, .string ⟨List.toArray []⟩]) (t := 36) F1 M1 (wantedS rfl) (run_alloc rfl (by kernel_rfl)) rfl (by decide) fun g1 a2 w2 hgg1 hb2 F2 M2 => ?_
  refine sr (v := (.int .i64 0)) F2 (run_as rfl rfl) rfl rfl rfl fun a3 F3 => ?_
  refine sn ?_
  clear F0 F1 F2 M0 M1
  refine wp_seq ?_
  refine wsl ?_
  refine mvS F3 rfl rfl rfl rfl rfl fun a4 F4 => ?_
  refine sr F4 (run_len rfl (F4.ev 12 rfl) rfl Tryd.underlying9) rfl rfl rfl fun a5 F5 => ?_
  refine sr (v := (.bool false)) F5 (run_gtr rfl (F5.ev 13 rfl) rfl (by decide)) rfl rfl rfl fun a6 F6 => ?_
  refine sn ?_
  clear F3 F4 F5
  refine cfs (F6.ev 14 rfl) ?_
  refine wsl ?_
  refine sr F6 (run_fldA (m := 1) (s := 0) rfl (F6.ev 2 rfl) Tryd.underlying31 rfl rfl (by kernel_rfl) (by decide)) rfl rfl rfl fun a7 F7 => ?_
  refine sr (v := (.slice none 0 0)) F7 (run_ldF rfl (F7.ev 16 rfl) (M2.at 1 rfl) rfl (by kernel_rfl)) rfl rfl rfl fun a8 F8 => ?_
  refine sr F8 (run_lenSl rfl (F8.ev 17 rfl) rfl Tryd.underlying29) rfl rfl rfl fun a9 F9 => ?_
  refine sr F9 (run_sub (r := -1) rfl (F9.ev 18 rfl) rfl (by rw [IntKind.wrap_i64]; omega)) rfl rfl rfl fun a10 F10 => ?_
  refine asS F10 rfl rfl rfl rfl rfl fun a11 F11 => ?_
  refine sn ?_
  clear F6 F7 F8 F9 F10
  refine wsl ?_
  refine sr F11 (run_ldB rfl (F11.ev 2 rfl) (M2.at 1 rfl) Tryd.underlying31 rfl szKeys rfl) rfl rfl rfl fun a12 F12 => ?_
  refine mvS F12 rfl rfl rfl rfl rfl fun a13 F13 => ?_
  refine sqC (v := (.tuple #[(.agg (cells8 (List.replicate 32 0))), (.int .i64 1)])) F13 M2 (wantedS rfl) (run_call rfl Tryd.func38 (by kernel_rfl) rfl (mapE2 (F13.ev 21 rfl) (F13.ev 22 rfl))) rfl (by decide) (kbox_none w2) fun a14 w3 hb3 F14 M3 => ?_
  refine mvS F14 rfl rfl rfl rfl rfl fun a15 F15 => ?_
  refine sr (v := (.agg (cells8 (List.replicate 32 0)))) F15 (run_ext rfl (F15.ev 20 rfl) rfl) rfl rfl rfl fun a16 F16 => ?_
  refine sr (v := (.int .i64 1)) F16 (run_ext rfl (F16.ev 20 rfl) rfl) rfl rfl rfl fun a17 F17 => ?_
  refine sqNew (cs := (cells8 (List.replicate 32 0))) (t := 50) F17 M3 (wantedS rfl) (run_alloc rfl (by kernel_rfl)) rfl (by decide) fun g2 a18 w4 hgg2 hb4 F18 M4 => ?_
  refine sqStore (i := 0) F18 M4 rfl rfl rfl (F18.ev 7 rfl) (F18.ev 24 rfl) rfl sz32kk (szOf List.length_replicate) (szOf List.length_replicate) (cells8_one _) fun a19 w5 F19 M5 => ?_
  refine asS F19 rfl rfl rfl rfl rfl fun a20 F20 => ?_
  refine sn ?_
  clear F11 F12 F13 F14 F15 F16 F17 F18 F19 M2 M3 M4
  refine wp_seq ?_
  refine wsl ?_
  refine mvS F20 rfl rfl rfl rfl rfl fun a21 F21 => ?_
  refine sr (v := (.bool true)) F21 (run_nei rfl (F21.ev 26 rfl) rfl rfl) rfl rfl rfl fun a22 F22 => ?_
  refine sn ?_
  clear F20 F21
  refine wp_cond_true (F22.ev 27 rfl) ?_
  refine wsl ?_
  refine sr (v := (.agg #[.string ⟨List.toArray []⟩, .string ⟨List.toArray []⟩])) F22 (run_blt (vs := #[]) (cs := #[.string ⟨List.toArray []⟩, .string ⟨List.toArray []⟩]) rfl (by simp) (by kernel_rfl)) rfl rfl rfl fun a23 F23 => ?_
  refine mvS F23 rfl rfl rfl rfl rfl fun a24 F24 => ?_
  refine sqStore (i := 1) F24 M5 rfl rfl rfl (F24.ev 4 rfl) (F24.ev 28 rfl) rfl szBox rfl rfl (arr_one rfl) fun a25 w6 F25 M6 => ?_
  refine asS F25 rfl rfl rfl rfl rfl fun a26 F26 => ?_
  refine sn ?_
  clear F22 F23 F24 F25 M5
  refine wp_ret ?_
  refine nxRet ?_
  exact retBT F26 rfl rfl (M6.at 1 rfl) Tryd.underlying36 rfl szBox rfl rfl ⟨rfl, M6.below⟩
set_option maxRecDepth 100000 in
set_option maxHeartbeats 1000000 in
theorem fixed39_any (w : World) : Calls Tryd.prog 11 #[] w fun e w' => e = .returned (.bool true) ∧ Below w.heap.size w w' := by
  have hXl : ((List.replicate 63 0).take 63 : List UInt8).length = 63 := rfl
  have hcut : cutS ((List.replicate 63 0).take 63) = [((List.replicate 63 0).take 63)] := cut_small (by intro h; rw [h] at hXl; cases hXl) (by omega)
  refine walk_enter Tryd.func11 rfl rfl rfl fun a0 F0 => ?_
  have M0 := Mem.new w
  refine wsl ?_
  refine sr (v := (.bool false)) F0 (run_as rfl rfl) rfl rfl rfl fun a1 F1 => ?_
  refine sn ?_
  clear F0
  refine wsl ?_
  refine sqMakeY (m := 63) F1 M0 rfl rfl rfl rfl rfl rfl (by omega) rfl (by decide) fun g0 a2 w1 hgg0 hb1 F2 M1 => ?_
  refine sr (v := (.string ⟨((List.replicate 63 0).take 63).toArray⟩)) F2 (run_cv rfl (F2.ev 4 rfl) (run_strY (j := 63) (M1.ob 0 rfl) (by first | omega | (simp; done)))) rfl rfl rfl fun a3 F3 => ?_
  refine sqT (T := fun u wx => wx.ownsRow w1.heap.size 9 1 u [((List.replicate 63 0).take 63)].length ([((List.replicate 63 0).take 63)].map tx) ∧ Below w1.heap.size w1 wx) F3 (wantedS rfl) (run_call rfl Tryd.func12 (by kernel_rfl) rfl (mapE1 (F3.ev 5 rfl))) rfl (by decide) (by have h := ccut_any ((List.replicate 63 0).take 63) w1 (by decide); rwa [hcut] at h) fun u1 a4 w2 hT2 F4 => ?_
  obtain ⟨hr2, hb2⟩ := hT2
  have hO1 := OwnR.ofCall M1 hr2
  have M2 := M1.grow hb2
  refine asS F4 rfl rfl rfl rfl rfl fun a5 F5 => ?_
  refine sn ?_
  clear F1 F2 F3 F4 M0 M1
  refine wsl ?_
  refine sr (v := (.agg #[.slice none 0 0])) F5 (run_blt (vs := #[]) (cs := #[.slice none 0 0]) rfl (by simp) (by kernel_rfl)) rfl rfl rfl fun a6 F6 => ?_
  refine sqC (v := (.tuple #[(.agg #[.string ⟨List.toArray []⟩, .string ⟨List.toArray []⟩]), (.int .i64 1)])) F6 M2 (wantedS rfl) (run_call rfl Tryd.func18 (by kernel_rfl) rfl (mapE2 (F6.ev 8 rfl) rfl)) rfl (by decide) (cseal_none w2) fun a7 w3 hb3 F7 M3 => ?_
  have hO2 := hO1.grow hb3
  refine mvS F7 rfl rfl rfl rfl rfl fun a8 F8 => ?_
  refine sr (v := (.agg #[.string ⟨List.toArray []⟩, .string ⟨List.toArray []⟩])) F8 (run_ext rfl (F8.ev 7 rfl) rfl) rfl rfl rfl fun a9 F9 => ?_
  refine sr (v := (.int .i64 1)) F9 (run_ext rfl (F9.ev 7 rfl) rfl) rfl rfl rfl fun a10 F10 => ?_
  refine sqNew (cs := #[.string ⟨List.toArray []⟩, .string ⟨List.toArray []⟩]) (t := 36) F10 M3 (wantedS rfl) (run_alloc rfl (by kernel_rfl)) rfl (by decide) fun g2 a11 w4 hgg2 hb4 F11 M4 => ?_
  have hO3 := hO2.add (S := isB 36 (#[.string ⟨List.toArray []⟩, .string ⟨List.toArray []⟩])) hb4 hgg2
  refine sqStoreG (i := 0) F11 M4 rfl rfl rfl (F11.ev 2 rfl) (F11.ev 10 rfl) rfl szBox rfl rfl (arr_one rfl) fun a12 w5 hgr5 F12 M5 => ?_
  have hO4 := hO3.upd 0 (S2 := isB 36 (#[.string ⟨List.toArray []⟩, .string ⟨List.toArray []⟩])) rfl hgr5
  refine asS F12 rfl rfl rfl rfl rfl fun a13 F13 => ?_
  refine sn ?_
  clear F5 F6 F7 F8 F9 F10 F11 F12 M2 M3 M4
  refine wsl ?_
  refine mvS F13 rfl rfl rfl rfl rfl fun a14 F14 => ?_
  refine sr F14 (run_lenS rfl (F14.ev 12 rfl) (Sl.own hO4) rfl Tryd.underlying23) rfl rfl rfl fun a15 F15 => ?_
  refine sr (v := (.bool true)) F15 (run_eqi rfl (F15.ev 13 rfl) rfl (beq_self_eq_true _)) rfl rfl rfl fun a16 F16 => ?_
  refine mvS F16 rfl rfl rfl rfl rfl fun a17 F17 => ?_
  refine sq (v := u1) F17 (wantedG F17 rfl rfl rfl rfl rfl) (run_mv rfl (F17.ev 1 rfl)) rfl (by decide) fun a18 F18 => ?_
  refine sq (v := (slPtr u1 (0 * 1))) F18 (wantedG F18 rfl rfl rfl rfl rfl) (run_atP (i := 0) rfl (F18.ev 16 rfl) rfl rfl (Sl.own hO4) (by simp) elStr.un (by kernel_rfl)) rfl (by decide) fun a19 F19 => ?_
  refine sq (v := (.string ⟨((List.replicate 63 0).take 63).toArray⟩)) F19 (wantedG F19 rfl rfl rfl rfl rfl) (run_ldP rfl (F19.ev 17 rfl) (Sl.own hO4) (map_at rfl) (by kernel_rfl)) rfl (by decide) fun a20 F20 => ?_
  refine sq (v := (.int .i64 63)) F20 (wantedG F20 rfl rfl rfl rfl rfl) (run_len rfl (F20.ev 18 rfl) rfl Tryd.underlying9) rfl (by decide) fun a21 F21 => ?_
  refine sq (v := (.bool true)) F21 (wantedG F21 rfl rfl rfl rfl rfl) (run_eqi rfl (F21.ev 19 rfl) rfl (beq_self_eq_true _)) rfl (by decide) fun a22 F22 => ?_
  refine sr (v := (.bool true)) F22 (run_pick rfl (F22.ev 15 rfl) (F22.ev 20 rfl) rfl) rfl rfl rfl fun a23 F23 => ?_
  refine mvS F23 rfl rfl rfl rfl rfl fun a24 F24 => ?_
  refine sq (v := (.int .i64 1)) F24 (wantedG F24 rfl rfl rfl rfl rfl) (run_mv rfl (F24.ev 3 rfl)) rfl (by decide) fun a25 F25 => ?_
  refine sq (v := (.bool true)) F25 (wantedG F25 rfl rfl rfl rfl rfl) (run_eqi rfl (F25.ev 23 rfl) rfl (beq_self_eq_true _)) rfl (by decide) fun a26 F26 => ?_
  refine sr (v := (.bool true)) F26 (run_pick rfl (F26.ev 22 rfl) (F26.ev 24 rfl) rfl) rfl rfl rfl fun a27 F27 => ?_
  refine mvS F27 rfl rfl rfl rfl rfl fun a28 F28 => ?_
  refine sq (v := (.agg #[.string ⟨List.toArray []⟩, .string ⟨List.toArray []⟩])) F28 (wantedG F28 rfl rfl rfl rfl rfl) (run_ldB rfl (F28.ev 2 rfl) (M5.at 0 rfl) Tryd.underlying36 rfl szBox rfl) rfl (by decide) fun a29 F29 => ?_
  refine sq (v := (.agg #[.string ⟨List.toArray []⟩, .string ⟨List.toArray []⟩])) F29 (wantedG F29 rfl rfl rfl rfl rfl) (run_blt (vs := #[]) (cs := #[.string ⟨List.toArray []⟩, .string ⟨List.toArray []⟩]) rfl (by simp) (by kernel_rfl)) rfl (by decide) fun a30 F30 => ?_
  refine sq (v := (.bool true)) F30 (wantedG F30 rfl rfl rfl rfl rfl) (run_eqBox (s := []) (r := []) (s2 := []) (r2 := []) (by decide) rfl (F30.ev 27 rfl) (F30.ev 28 rfl)) rfl (by decide) fun a31 F31 => ?_
  refine sr (v := (.bool true)) F31 (run_pick rfl (F31.ev 26 rfl) (F31.ev 29 rfl) rfl) rfl rfl rfl fun a32 F32 => ?_
  refine asS F32 rfl rfl rfl rfl rfl fun a33 F33 => ?_
  refine sn ?_
  clear F13 F14 F15 F16 F17 F18 F19 F20 F21 F22 F23 F24 F25 F26 F27 F28 F29 F30 F31 F32
  refine wp_ret ?_
  exact ret1 F33 rfl rfl ⟨rfl, M5.below⟩
end Go.Proofs.YtdjjiblijbjobaaDoor
