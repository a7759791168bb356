/- The walk of the lz laws' 'awake'. Printed by gen_lz8.py. -/
import Derived.Test.YtpobmaklgnioeaaDoorLz7
namespace Go.Proofs.YtpobmaklgnioeaaDoor
open Go.RowKit

theorem six1 : packS [97, 97, 97, 97, 97, 97] = [0, 97, 129, 1, 0] := by decide +kernel
theorem six2 : unpS [0, 97, 129, 1, 0] 6 = ([97, 97, 97, 97, 97, 97], 0) := by decide +kernel
theorem unpS_fit (s : List UInt8) (most : Int) (h : (s.length : Int) ≤ most) : unpS (packS s) most = (s, 0) := by
  unfold unpS
  rw [if_neg (by omega), show max most 0 = most by omega, unp_pack s most h]
set_option maxRecDepth 100000 in
set_option maxHeartbeats 1000000 in
theorem zawake_any (w : World) : Calls Tryd.prog 28 #[] w fun e w' => e = .returned (.bool true) ∧ Below w.heap.size w w' := by
  refine walk_enter Tryd.func28 rfl rfl rfl fun a0 hF0 => ?_
  have hM0 := Mem.new w
  refine wp_seq ?_
  refine wp_region_lit ?_
  refine sq (v := (.bool false)) hF0 (wantedS rfl) (run_as rfl rfl) rfl (by decide) fun a1 hF1 => ?_
  refine sqEnd ?_
  clear hF0
  refine nx ?_
  refine wp_seq ?_
  refine wp_region_lit ?_
  refine sqC (v := (.string ⟨List.toArray [0, 97, 129, 1, 0]⟩)) hF1 hM0 (wantedS rfl) (run_call rfl Tryd.func32 (by kernel_rfl) rfl (mapE1 rfl)) rfl (by decide) ((by rw [← six1]; exact zpack_any [97, 97, 97, 97, 97, 97] w (by decide))) fun a2 w1 hb1 hF2 hM1 => ?_
  refine sq (v := (.string ⟨List.toArray [0, 97, 129, 1, 0]⟩)) hF2 (wantedS rfl) (run_as rfl (hF2.ev 4 rfl)) rfl (by decide) fun a3 hF3 => ?_
  refine sqEnd ?_
  clear hF1 hF2 hM0
  refine nx ?_
  refine wp_seq ?_
  refine wp_region_lit ?_
  refine sq (v := (.string ⟨List.toArray [0, 97, 129, 1, 0]⟩)) hF3 (wantedS rfl) (run_mv rfl (hF3.ev 1 rfl)) rfl (by decide) fun a4 hF4 => ?_
  refine sqC (v := (.tuple #[(.string ⟨List.toArray [97, 97, 97, 97, 97, 97]⟩), (.int .i64 0)])) hF4 hM1 (wantedS rfl) (run_call rfl Tryd.func33 (by kernel_rfl) rfl (mapE2 (hF4.ev 6 rfl) rfl)) rfl (by decide) ((by have h := zunp_any [0, 97, 129, 1, 0] 6 w1 (by decide) (by decide) (by decide); rw [six2] at h; exact h)) fun a5 w2 hb2 hF5 hM2 => ?_
  refine sq (v := (.tuple #[(.string ⟨List.toArray [97, 97, 97, 97, 97, 97]⟩), (.int .i64 0)])) hF5 (wantedS rfl) (run_mv rfl (hF5.ev 7 rfl)) rfl (by decide) fun a6 hF6 => ?_
  refine sq (v := (.string ⟨List.toArray [97, 97, 97, 97, 97, 97]⟩)) hF6 (wantedS rfl) (run_ext rfl (hF6.ev 5 rfl) rfl) rfl (by decide) fun a7 hF7 => ?_
  refine sq (v := (.int .i64 0)) hF7 (wantedS rfl) (run_ext rfl (hF7.ev 5 rfl) rfl) rfl (by decide) fun a8 hF8 => ?_
  refine sq (v := (.string ⟨List.toArray [97, 97, 97, 97, 97, 97]⟩)) hF8 (wantedS rfl) (run_as rfl (hF8.ev 8 rfl)) rfl (by decide) fun a9 hF9 => ?_
  refine sq (v := (.int .i64 0)) hF9 (wantedS rfl) (run_as rfl (hF9.ev 9 rfl)) rfl (by decide) fun a10 hF10 => ?_
  refine sqEnd ?_
  clear hF3 hF4 hF5 hF6 hF7 hF8 hF9 hM1
  refine nx ?_
  refine wp_seq ?_
  refine wp_region_lit ?_
  refine sq (v := (.string ⟨List.toArray [0, 97, 129, 1, 0]⟩)) hF10 (wantedS rfl) (run_mv rfl (hF10.ev 1 rfl)) rfl (by decide) fun a11 hF11 => ?_
  refine sq (v := (.bool true)) hF11 (wantedS rfl) (run_eqs rfl (hF11.ev 10 rfl) rfl (beq_self_eq_true _)) rfl (by decide) fun a12 hF12 => ?_
  refine sq (v := (.bool true)) hF12 (wantedS rfl) (run_mv rfl (hF12.ev 11 rfl)) rfl (by decide) fun a13 hF13 => ?_
  refine sq (v := (.string ⟨List.toArray [97, 97, 97, 97, 97, 97]⟩)) hF13 (wantedG hF13 rfl rfl rfl rfl rfl) (run_mv rfl (hF13.ev 2 rfl)) rfl (by decide) fun a14 hF14 => ?_
  refine sq (v := (.bool true)) hF14 (wantedG hF14 rfl rfl rfl rfl rfl) (run_eqs rfl (hF14.ev 13 rfl) rfl (beq_self_eq_true _)) rfl (by decide) fun a15 hF15 => ?_
  refine sq (v := (.bool true)) hF15 (wantedS rfl) (run_pick rfl (hF15.ev 12 rfl) (hF15.ev 14 rfl) rfl) rfl (by decide) fun a16 hF16 => ?_
  refine sq (v := (.bool true)) hF16 (wantedS rfl) (run_mv rfl (hF16.ev 15 rfl)) rfl (by decide) fun a17 hF17 => ?_
  refine sq (v := (.int .i64 0)) hF17 (wantedG hF17 rfl rfl rfl rfl rfl) (run_mv rfl (hF17.ev 3 rfl)) rfl (by decide) fun a18 hF18 => ?_
  refine sq (v := (.bool true)) hF18 (wantedG hF18 rfl rfl rfl rfl rfl) (run_eqi rfl (hF18.ev 17 rfl) rfl (beq_self_eq_true _)) rfl (by decide) fun a19 hF19 => ?_
  refine sq (v := (.bool true)) hF19 (wantedS rfl) (run_pick rfl (hF19.ev 16 rfl) (hF19.ev 18 rfl) rfl) rfl (by decide) fun a20 hF20 => ?_
  refine sq (v := (.bool true)) hF20 (wantedS rfl) (run_as rfl (hF20.ev 19 rfl)) rfl (by decide) fun a21 hF21 => ?_
  refine sqEnd ?_
  clear hF10 hF11 hF12 hF13 hF14 hF15 hF16 hF17 hF18 hF19 hF20
  refine nx ?_
  refine wp_ret ?_
  exact ret1 hF21 rfl rfl ⟨rfl, hM2.below⟩
end Go.Proofs.YtpobmaklgnioeaaDoor
