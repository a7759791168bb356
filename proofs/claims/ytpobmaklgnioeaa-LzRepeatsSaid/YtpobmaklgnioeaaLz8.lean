/- The walks of the laws LzPacks, LzBack, LzUnpacks, LzJoins, LzCuts. Printed by gen_lz8.py. -/
import Derived.Test.YtpobmaklgnioeaaLz7
import Derived.Test.YtpobmaklgnioeaaLz3
namespace Go.Proofs.Ytpobmaklgnioeaa
open Go.RowKit

theorem six1 : packS [97, 97, 97, 97, 97, 97] = [0, 97, 129, 1, 0] := by decide +kernel
theorem six2 : unpS [0, 97, 129, 1, 0] 6 = ([97, 97, 97, 97, 97, 97], 0) := by decide +kernel
theorem unpS_fit (s : List UInt8) (most : Int) (h : (s.length : Int) ≤ most) : unpS (packS s) most = (s, 0) := by
  unfold unpS
  rw [if_neg (by omega), show max most 0 = most by omega, unp_pack s most h]
theorem unpS_over (s : List UInt8) (most : Int) (hs : s ≠ []) (h : most < (s.length : Int)) : unpS (packS s) most = ([], 6) := by
  have hne : packS s ≠ [] := by
    intro e
    have h1 := unp_pack s s.length (Int.le_refl _)
    rw [e, unpT_nil] at h1
    injection h1 with h2
    rw [← h2] at h hs
    exact hs rfl
  unfold unpS
  rw [if_neg (fun e => hne e.2)]
  have := List.length_pos_iff.2 hs
  exact unpT_limit s (max most 0) (by omega) s.length 0 0 (by omega) (by omega) (by omega) (by omega)
theorem unpS_join (a b : List UInt8) : unpS (packS a ++ packS b) ((a.length : Int) + (b.length : Int)) = (a ++ b, 0) := by
  unfold unpS
  rw [if_neg (by omega), show max ((a.length : Int) + (b.length : Int)) 0 = (a.length : Int) + b.length by omega, unp_join a b _ (Int.le_refl _)]
theorem unpS_cut (s : List UInt8) (n : Nat) : cutOk s (unpS ((packS s).take n) (s.length : Int)) := by
  unfold unpS
  rw [if_neg (by omega), show max (s.length : Int) 0 = s.length by omega]
  exact unpT_cut s _ (Int.le_refl _) s.length 0 0 n (by omega) (by omega) (by omega)
set_option maxRecDepth 100000 in
set_option maxHeartbeats 1000000 in
theorem zawake_any (w : World) : Calls Try.prog 9 #[] w fun e w' => e = .returned (.bool true) ∧ Below w.heap.size w w' := by
  refine walk_enter Try.func9 rfl rfl rfl fun a0 hF0 => ?_
  have hM0 := Mem.new w
  refine wp_seq ?_
  refine wp_region_lit ?_
  refine sq (v := (.bool false)) hF0 (wantedS rfl) (run_as rfl rfl) rfl (by decide) fun a1 hF1 => ?_
  refine sqEnd ?_
  clear hF0
  refine nx ?_
  refine wp_seq ?_
  refine wp_region_lit ?_
  refine sqC (v := (.string ⟨List.toArray [0, 97, 129, 1, 0]⟩)) hF1 hM0 (wantedS rfl) (run_call rfl Try.func10 (by kernel_rfl) rfl (mapE1 rfl)) rfl (by decide) ((by rw [← six1]; exact zpack_any [97, 97, 97, 97, 97, 97] w (by decide))) fun a2 w1 hb1 hF2 hM1 => ?_
  refine sq (v := (.string ⟨List.toArray [0, 97, 129, 1, 0]⟩)) hF2 (wantedS rfl) (run_as rfl (hF2.ev 4 rfl)) rfl (by decide) fun a3 hF3 => ?_
  refine sqEnd ?_
  clear hF1 hF2 hM0
  refine nx ?_
  refine wp_seq ?_
  refine wp_region_lit ?_
  refine sq (v := (.string ⟨List.toArray [0, 97, 129, 1, 0]⟩)) hF3 (wantedS rfl) (run_mv rfl (hF3.ev 1 rfl)) rfl (by decide) fun a4 hF4 => ?_
  refine sqC (v := (.tuple #[(.string ⟨List.toArray [97, 97, 97, 97, 97, 97]⟩), (.int .i64 0)])) hF4 hM1 (wantedS rfl) (run_call rfl Try.func12 (by kernel_rfl) rfl (mapE2 (hF4.ev 6 rfl) rfl)) rfl (by decide) ((by have h := zunp_any [0, 97, 129, 1, 0] 6 w1 (by decide) (by decide) (by decide); rw [six2] at h; exact h)) fun a5 w2 hb2 hF5 hM2 => ?_
  refine sq (v := (.tuple #[(.string ⟨List.toArray [97, 97, 97, 97, 97, 97]⟩), (.int .i64 0)])) hF5 (wantedS rfl) (run_mv rfl (hF5.ev 7 rfl)) rfl (by decide) fun a6 hF6 => ?_
  refine sq (v := (.string ⟨List.toArray [97, 97, 97, 97, 97, 97]⟩)) hF6 (wantedS rfl) (run_ext rfl (hF6.ev 5 rfl) rfl) rfl (by decide) fun a7 hF7 => ?_
  refine sq (v := (.int .i64 0)) hF7 (wantedS rfl) (run_ext rfl (hF7.ev 5 rfl) rfl) rfl (by decide) fun a8 hF8 => ?_
  refine sq (v := (.string ⟨List.toArray [97, 97, 97, 97, 97, 97]⟩)) hF8 (wantedS rfl) (run_as rfl (hF8.ev 8 rfl)) rfl (by decide) fun a9 hF9 => ?_
  refine sq (v := (.int .i64 0)) hF9 (wantedS rfl) (run_as rfl (hF9.ev 9 rfl)) rfl (by decide) fun a10 hF10 => ?_
  refine sqEnd ?_
  clear hF3 hF4 hF5 hF6 hF7 hF8 hF9 hM1
  refine nx ?_
  refine wp_seq ?_
  refine wp_region_lit ?_
  refine sq (v := (.string ⟨List.toArray [0, 97, 129, 1, 0]⟩)) hF10 (wantedS rfl) (run_mv rfl (hF10.ev 1 rfl)) rfl (by decide) fun a11 hF11 => ?_
  refine sq (v := (.bool true)) hF11 (wantedS rfl) (run_eqs rfl (hF11.ev 10 rfl) rfl (beq_self_eq_true _)) rfl (by decide) fun a12 hF12 => ?_
  refine sq (v := (.bool true)) hF12 (wantedS rfl) (run_mv rfl (hF12.ev 11 rfl)) rfl (by decide) fun a13 hF13 => ?_
  refine sq (v := (.string ⟨List.toArray [97, 97, 97, 97, 97, 97]⟩)) hF13 (wantedG hF13 rfl rfl rfl rfl rfl) (run_mv rfl (hF13.ev 2 rfl)) rfl (by decide) fun a14 hF14 => ?_
  refine sq (v := (.bool true)) hF14 (wantedG hF14 rfl rfl rfl rfl rfl) (run_eqs rfl (hF14.ev 13 rfl) rfl (beq_self_eq_true _)) rfl (by decide) fun a15 hF15 => ?_
  refine sq (v := (.bool true)) hF15 (wantedS rfl) (run_pick rfl (hF15.ev 12 rfl) (hF15.ev 14 rfl) rfl) rfl (by decide) fun a16 hF16 => ?_
  refine sq (v := (.bool true)) hF16 (wantedS rfl) (run_mv rfl (hF16.ev 15 rfl)) rfl (by decide) fun a17 hF17 => ?_
  refine sq (v := (.int .i64 0)) hF17 (wantedG hF17 rfl rfl rfl rfl rfl) (run_mv rfl (hF17.ev 3 rfl)) rfl (by decide) fun a18 hF18 => ?_
  refine sq (v := (.bool true)) hF18 (wantedG hF18 rfl rfl rfl rfl rfl) (run_eqi rfl (hF18.ev 17 rfl) rfl (beq_self_eq_true _)) rfl (by decide) fun a19 hF19 => ?_
  refine sq (v := (.bool true)) hF19 (wantedS rfl) (run_pick rfl (hF19.ev 16 rfl) (hF19.ev 18 rfl) rfl) rfl (by decide) fun a20 hF20 => ?_
  refine sq (v := (.bool true)) hF20 (wantedS rfl) (run_as rfl (hF20.ev 19 rfl)) rfl (by decide) fun a21 hF21 => ?_
  refine sqEnd ?_
  clear hF10 hF11 hF12 hF13 hF14 hF15 hF16 hF17 hF18 hF19 hF20
  refine nx ?_
  refine wp_ret ?_
  exact ret1 hF21 rfl rfl ⟨rfl, hM2.below⟩
set_option maxRecDepth 100000 in
set_option maxHeartbeats 1000000 in
theorem lawZPacks_any (s : List UInt8) (w : World) (_hm : s.length ≤ maxLen) : Calls Try.prog 3 #[.string ⟨s.toArray⟩] w fun e w' => e = .returned (.bool true) ∧ Below w.heap.size w w' := by
  by_cases h : 600 < s.length
  · skip
    refine walk_enter Try.func3 rfl rfl rfl fun a0 hF0 => ?_
    have hM0 := Mem.new w
    refine wp_seq ?_
    refine wp_region_lit ?_
    refine sq (v := (.bool false)) hF0 (wantedS rfl) (run_as rfl rfl) rfl (by decide) fun a1 hF1 => ?_
    refine sqEnd ?_
    clear hF0
    refine nx ?_
    refine wp_seq ?_
    refine wp_seq ?_
    refine wp_region_lit ?_
    refine sq (v := (.string ⟨s.toArray⟩)) hF1 (wantedS rfl) (run_mv rfl (hF1.ev 0 rfl)) rfl (by decide) fun a2 hF2 => ?_
    refine sq (v := (.int .i64 (s.length : Int))) hF2 (wantedS rfl) (run_len rfl (hF2.ev 4 rfl) rfl Try.underlying9) rfl (by decide) fun a3 hF3 => ?_
    refine sq (v := (.bool true)) hF3 (wantedS rfl) (run_gtr rfl (hF3.ev 5 rfl) rfl (decide_eq_true (by omega))) rfl (by decide) fun a4 hF4 => ?_
    refine sqEnd ?_
    clear hF1 hF2 hF3
    refine nx ?_
    refine wp_cond_true (hF4.ev 6 rfl) ?_
    refine wp_seq ?_
    refine wp_region_lit ?_
    refine sqC (v := (.bool true)) hF4 hM0 (wantedS rfl) (run_call rfl Try.func9 (by kernel_rfl) rfl (mapE0 )) rfl (by decide) (zawake_any w) fun a5 w1 hb1 hF5 hM1 => ?_
    refine sq (v := (.bool true)) hF5 (wantedS rfl) (run_as rfl (hF5.ev 7 rfl)) rfl (by decide) fun a6 hF6 => ?_
    refine sqEnd ?_
    clear hF4 hF5 hM0
    refine nx ?_
    refine wp_ret ?_
    refine nxRet ?_
    exact ret1 hF6 rfl rfl ⟨rfl, hM1.below⟩
  · have hpk := pack_len s
    refine walk_enter Try.func3 rfl rfl rfl fun a0 hF0 => ?_
    have hM0 := Mem.new w
    refine wp_seq ?_
    refine wp_region_lit ?_
    refine sq (v := (.bool false)) hF0 (wantedS rfl) (run_as rfl rfl) rfl (by decide) fun a1 hF1 => ?_
    refine sqEnd ?_
    clear hF0
    refine nx ?_
    refine wp_seq ?_
    refine wp_seq ?_
    refine wp_region_lit ?_
    refine sq (v := (.string ⟨s.toArray⟩)) hF1 (wantedS rfl) (run_mv rfl (hF1.ev 0 rfl)) rfl (by decide) fun a2 hF2 => ?_
    refine sq (v := (.int .i64 (s.length : Int))) hF2 (wantedS rfl) (run_len rfl (hF2.ev 4 rfl) rfl Try.underlying9) rfl (by decide) fun a3 hF3 => ?_
    refine sq (v := (.bool false)) hF3 (wantedS rfl) (run_gtr rfl (hF3.ev 5 rfl) rfl (decide_eq_false (by omega))) rfl (by decide) fun a4 hF4 => ?_
    refine sqEnd ?_
    clear hF1 hF2 hF3
    refine nx ?_
    refine wp_cond_false (hF4.ev 6 rfl) ?_
    refine wp_skip ?_
    refine nx ?_
    refine wp_seq ?_
    refine wp_region_lit ?_
    refine sq (v := (.string ⟨s.toArray⟩)) hF4 (wantedS rfl) (run_mv rfl (hF4.ev 0 rfl)) rfl (by decide) fun a5 hF5 => ?_
    refine sqC (v := (.string ⟨(packS s).toArray⟩)) hF5 hM0 (wantedS rfl) (run_call rfl Try.func10 (by kernel_rfl) rfl (mapE1 (hF5.ev 8 rfl))) rfl (by decide) (zpack_any s w (by omega)) fun a6 w1 hb1 hF6 hM1 => ?_
    refine sq (v := (.string ⟨(packS s).toArray⟩)) hF6 (wantedS rfl) (run_as rfl (hF6.ev 9 rfl)) rfl (by decide) fun a7 hF7 => ?_
    refine sqEnd ?_
    clear hF4 hF5 hF6 hM0
    refine nx ?_
    refine wp_seq ?_
    refine wp_region_lit ?_
    refine sq (v := (.string ⟨(packS s).toArray⟩)) hF7 (wantedS rfl) (run_mv rfl (hF7.ev 3 rfl)) rfl (by decide) fun a8 hF8 => ?_
    refine sq (v := (.string ⟨s.toArray⟩)) hF8 (wantedS rfl) (run_mv rfl (hF8.ev 0 rfl)) rfl (by decide) fun a9 hF9 => ?_
    refine sqC (v := (.string ⟨(packS s).toArray⟩)) hF9 hM1 (wantedS rfl) (run_call rfl Try.func11 (by kernel_rfl) rfl (mapE1 (hF9.ev 11 rfl))) rfl (by decide) (rpack_any s w1 (by omega)) fun a10 w2 hb2 hF10 hM2 => ?_
    refine sq (v := (.bool true)) hF10 (wantedS rfl) (run_eqs rfl (hF10.ev 10 rfl) (hF10.ev 12 rfl) (beq_self_eq_true _)) rfl (by decide) fun a11 hF11 => ?_
    refine sq (v := (.bool true)) hF11 (wantedS rfl) (run_mv rfl (hF11.ev 13 rfl)) rfl (by decide) fun a12 hF12 => ?_
    refine sq (v := (.string ⟨(packS s).toArray⟩)) hF12 (wantedG hF12 rfl rfl rfl rfl rfl) (run_mv rfl (hF12.ev 3 rfl)) rfl (by decide) fun a13 hF13 => ?_
    refine sq (v := (.int .i64 ((packS s).length : Int))) hF13 (wantedG hF13 rfl rfl rfl rfl rfl) (run_len rfl (hF13.ev 15 rfl) rfl Try.underlying9) rfl (by decide) fun a14 hF14 => ?_
    refine sq (v := (.string ⟨s.toArray⟩)) hF14 (wantedG hF14 rfl rfl rfl rfl rfl) (run_mv rfl (hF14.ev 0 rfl)) rfl (by decide) fun a15 hF15 => ?_
    refine sq (v := (.int .i64 (s.length : Int))) hF15 (wantedG hF15 rfl rfl rfl rfl rfl) (run_len rfl (hF15.ev 17 rfl) rfl Try.underlying9) rfl (by decide) fun a16 hF16 => ?_
    refine sq (v := (.string ⟨s.toArray⟩)) hF16 (wantedG hF16 rfl rfl rfl rfl rfl) (run_mv rfl (hF16.ev 0 rfl)) rfl (by decide) fun a17 hF17 => ?_
    refine sq (v := (.int .i64 (s.length : Int))) hF17 (wantedG hF17 rfl rfl rfl rfl rfl) (run_len rfl (hF17.ev 19 rfl) rfl Try.underlying9) rfl (by decide) fun a18 hF18 => ?_
    refine sq (v := (.int .i64 ((s.length : Int) + 127))) hF18 (wantedG hF18 rfl rfl rfl rfl rfl) (run_add (r := (s.length : Int) + 127) rfl (hF18.ev 20 rfl) rfl (by rw [IntKind.wrap_i64]; omega)) rfl (by decide) fun a19 hF19 => ?_
    refine sq (v := (.int .i64 (((s.length + 127) / 128 : Nat) : Int))) hF19 (wantedG hF19 rfl rfl rfl rfl rfl) (run_quo (r := (((s.length + 127) / 128 : Nat) : Int)) rfl (hF19.ev 21 rfl) rfl (by omega) (by rw [Int.tdiv_eq_ediv_of_nonneg (by omega), IntKind.wrap_i64]; try omega)) rfl (by decide) fun a20 hF20 => ?_
    refine sq (v := (.int .i64 ((s.length : Int) + (((s.length + 127) / 128 : Nat) : Int)))) hF20 (wantedG hF20 rfl rfl rfl rfl rfl) (run_add (r := (s.length : Int) + (((s.length + 127) / 128 : Nat) : Int)) rfl (hF20.ev 18 rfl) (hF20.ev 22 rfl) (by rw [IntKind.wrap_i64]; omega)) rfl (by decide) fun a21 hF21 => ?_
    refine sq (v := (.bool true)) hF21 (wantedG hF21 rfl rfl rfl rfl rfl) (run_leq rfl (hF21.ev 16 rfl) (hF21.ev 23 rfl) (decide_eq_true (by omega))) rfl (by decide) fun a22 hF22 => ?_
    refine sq (v := (.bool true)) hF22 (wantedS rfl) (run_pick rfl (hF22.ev 14 rfl) (hF22.ev 24 rfl) rfl) rfl (by decide) fun a23 hF23 => ?_
    refine sq (v := (.bool true)) hF23 (wantedS rfl) (run_mv rfl (hF23.ev 25 rfl)) rfl (by decide) fun a24 hF24 => ?_
    refine sqC (v := (.bool true)) hF24 hM2 (wantedG hF24 rfl rfl rfl rfl rfl) (run_call rfl Try.func9 (by kernel_rfl) rfl (mapE0 )) rfl (by decide) (zawake_any w2) fun a25 w3 hb3 hF25 hM3 => ?_
    refine sq (v := (.bool true)) hF25 (wantedS rfl) (run_pick rfl (hF25.ev 26 rfl) (hF25.ev 27 rfl) rfl) rfl (by decide) fun a26 hF26 => ?_
    refine sq (v := (.bool true)) hF26 (wantedS rfl) (run_as rfl (hF26.ev 28 rfl)) rfl (by decide) fun a27 hF27 => ?_
    refine sqEnd ?_
    clear hF7 hF8 hF9 hF10 hF11 hF12 hF13 hF14 hF15 hF16 hF17 hF18 hF19 hF20 hF21 hF22 hF23 hF24 hF25 hF26 hM1 hM2
    refine nx ?_
    refine wp_ret ?_
    exact ret1 hF27 rfl rfl ⟨rfl, hM3.below⟩
set_option maxRecDepth 100000 in
set_option maxHeartbeats 1000000 in
theorem lawZBack_any (s : List UInt8) (most : Int) (w : World) (_hm : s.length ≤ maxLen) (hm1 : -9223372036854775808 ≤ most) (hm2 : most ≤ 9223372036854775807) : Calls Try.prog 4 #[.string ⟨s.toArray⟩, .int .i64 most] w fun e w' => e = .returned (.bool true) ∧ Below w.heap.size w w' := by
  by_cases h : 2000 < s.length
  · skip
    refine walk_enter Try.func4 rfl rfl rfl fun a0 hF0 => ?_
    have hM0 := Mem.new w
    refine wp_seq ?_
    refine wp_region_lit ?_
    refine sq (v := (.bool false)) hF0 (wantedS rfl) (run_as rfl rfl) rfl (by decide) fun a1 hF1 => ?_
    refine sqEnd ?_
    clear hF0
    refine nx ?_
    refine wp_seq ?_
    refine wp_seq ?_
    refine wp_region_lit ?_
    refine sq (v := (.string ⟨s.toArray⟩)) hF1 (wantedS rfl) (run_mv rfl (hF1.ev 0 rfl)) rfl (by decide) fun a2 hF2 => ?_
    refine sq (v := (.int .i64 (s.length : Int))) hF2 (wantedS rfl) (run_len rfl (hF2.ev 10 rfl) rfl Try.underlying9) rfl (by decide) fun a3 hF3 => ?_
    refine sq (v := (.bool true)) hF3 (wantedS rfl) (run_gtr rfl (hF3.ev 11 rfl) rfl (decide_eq_true (by omega))) rfl (by decide) fun a4 hF4 => ?_
    refine sqEnd ?_
    clear hF1 hF2 hF3
    refine nx ?_
    refine wp_cond_true (hF4.ev 12 rfl) ?_
    refine wp_seq ?_
    refine wp_region_lit ?_
    refine sqC (v := (.bool true)) hF4 hM0 (wantedS rfl) (run_call rfl Try.func9 (by kernel_rfl) rfl (mapE0 )) rfl (by decide) (zawake_any w) fun a5 w1 hb1 hF5 hM1 => ?_
    refine sq (v := (.bool true)) hF5 (wantedS rfl) (run_as rfl (hF5.ev 13 rfl)) rfl (by decide) fun a6 hF6 => ?_
    refine sqEnd ?_
    clear hF4 hF5 hM0
    refine nx ?_
    refine wp_ret ?_
    refine nxRet ?_
    exact ret1 hF6 rfl rfl ⟨rfl, hM1.below⟩
  have hpk := pack_len s
  by_cases h2 : most < s.length
  · by_cases hs : s = []
    · subst hs
      have hov : unpS (packS []) most = ([], 6) := by
        have e : packS [] = [] := by decide +kernel
        rw [e]
        unfold unpS
        rw [if_pos ⟨by simpa using h2, rfl⟩]
      refine walk_enter Try.func4 rfl rfl rfl fun a0 hF0 => ?_
      have hM0 := Mem.new w
      refine wp_seq ?_
      refine wp_region_lit ?_
      refine sq (v := (.bool false)) hF0 (wantedS rfl) (run_as rfl rfl) rfl (by decide) fun a1 hF1 => ?_
      refine sqEnd ?_
      clear hF0
      refine nx ?_
      refine wp_seq ?_
      refine wp_seq ?_
      refine wp_region_lit ?_
      refine sq (v := (.string ⟨List.toArray []⟩)) hF1 (wantedS rfl) (run_mv rfl (hF1.ev 0 rfl)) rfl (by decide) fun a2 hF2 => ?_
      refine sq (v := (.int .i64 ([].length : Int))) hF2 (wantedS rfl) (run_len rfl (hF2.ev 10 rfl) rfl Try.underlying9) rfl (by decide) fun a3 hF3 => ?_
      refine sq (v := (.bool false)) hF3 (wantedS rfl) (run_gtr rfl (hF3.ev 11 rfl) rfl (decide_eq_false (by omega))) rfl (by decide) fun a4 hF4 => ?_
      refine sqEnd ?_
      clear hF1 hF2 hF3
      refine nx ?_
      refine wp_cond_false (hF4.ev 12 rfl) ?_
      refine wp_skip ?_
      refine nx ?_
      refine wp_seq ?_
      refine wp_region_lit ?_
      refine sq (v := (.string ⟨List.toArray []⟩)) hF4 (wantedS rfl) (run_mv rfl (hF4.ev 0 rfl)) rfl (by decide) fun a5 hF5 => ?_
      refine sqC (v := (.string ⟨(packS []).toArray⟩)) hF5 hM0 (wantedS rfl) (run_call rfl Try.func10 (by kernel_rfl) rfl (mapE1 (hF5.ev 14 rfl))) rfl (by decide) (zpack_any [] w (by simp)) fun a6 w1 hb1 hF6 hM1 => ?_
      refine sq (v := (.string ⟨(packS []).toArray⟩)) hF6 (wantedS rfl) (run_as rfl (hF6.ev 15 rfl)) rfl (by decide) fun a7 hF7 => ?_
      refine sqEnd ?_
      clear hF4 hF5 hF6 hM0
      refine nx ?_
      refine wp_seq ?_
      refine wp_region_lit ?_
      refine sq (v := (.string ⟨(packS []).toArray⟩)) hF7 (wantedS rfl) (run_mv rfl (hF7.ev 5 rfl)) rfl (by decide) fun a8 hF8 => ?_
      refine sq (v := (.string ⟨List.toArray []⟩)) hF8 (wantedS rfl) (run_mv rfl (hF8.ev 0 rfl)) rfl (by decide) fun a9 hF9 => ?_
      refine sq (v := (.int .i64 ([].length : Int))) hF9 (wantedS rfl) (run_len rfl (hF9.ev 18 rfl) rfl Try.underlying9) rfl (by decide) fun a10 hF10 => ?_
      refine sqC (v := (.tuple #[(.string ⟨List.toArray []⟩), (.int .i64 0)])) hF10 hM1 (wantedS rfl) (run_call rfl Try.func12 (by kernel_rfl) rfl (mapE2 (hF10.ev 17 rfl) (hF10.ev 19 rfl))) rfl (by decide) ((by have h := zunp_any (packS []) 0 w1 (by decide +kernel) (by decide) (by decide); rw [unpS_fit [] 0 (by simp)] at h; exact h)) fun a11 w2 hb2 hF11 hM2 => ?_
      refine sq (v := (.tuple #[(.string ⟨List.toArray []⟩), (.int .i64 0)])) hF11 (wantedS rfl) (run_mv rfl (hF11.ev 20 rfl)) rfl (by decide) fun a12 hF12 => ?_
      refine sq (v := (.string ⟨List.toArray []⟩)) hF12 (wantedS rfl) (run_ext rfl (hF12.ev 16 rfl) rfl) rfl (by decide) fun a13 hF13 => ?_
      refine sq (v := (.int .i64 0)) hF13 (wantedS rfl) (run_ext rfl (hF13.ev 16 rfl) rfl) rfl (by decide) fun a14 hF14 => ?_
      refine sq (v := (.string ⟨List.toArray []⟩)) hF14 (wantedS rfl) (run_as rfl (hF14.ev 21 rfl)) rfl (by decide) fun a15 hF15 => ?_
      refine sq (v := (.int .i64 0)) hF15 (wantedS rfl) (run_as rfl (hF15.ev 22 rfl)) rfl (by decide) fun a16 hF16 => ?_
      refine sqEnd ?_
      clear hF7 hF8 hF9 hF10 hF11 hF12 hF13 hF14 hF15 hM1
      refine nx ?_
      refine wp_seq ?_
      refine wp_region_lit ?_
      refine sq (v := (.string ⟨(packS []).toArray⟩)) hF16 (wantedS rfl) (run_mv rfl (hF16.ev 5 rfl)) rfl (by decide) fun a17 hF17 => ?_
      refine sq (v := (.int .i64 most)) hF17 (wantedS rfl) (run_mv rfl (hF17.ev 1 rfl)) rfl (by decide) fun a18 hF18 => ?_
      refine sqC (v := (.tuple #[(.string ⟨List.toArray []⟩), (.int .i64 6)])) hF18 hM2 (wantedS rfl) (run_call rfl Try.func12 (by kernel_rfl) rfl (mapE2 (hF18.ev 24 rfl) (hF18.ev 25 rfl))) rfl (by decide) ((by have h := zunp_any (packS []) most w2 (by decide +kernel) hm1 hm2; rw [hov] at h; exact h)) fun a19 w3 hb3 hF19 hM3 => ?_
      refine sq (v := (.tuple #[(.string ⟨List.toArray []⟩), (.int .i64 6)])) hF19 (wantedS rfl) (run_mv rfl (hF19.ev 26 rfl)) rfl (by decide) fun a20 hF20 => ?_
      refine sq (v := (.string ⟨List.toArray []⟩)) hF20 (wantedS rfl) (run_ext rfl (hF20.ev 23 rfl) rfl) rfl (by decide) fun a21 hF21 => ?_
      refine sq (v := (.int .i64 6)) hF21 (wantedS rfl) (run_ext rfl (hF21.ev 23 rfl) rfl) rfl (by decide) fun a22 hF22 => ?_
      refine sq (v := (.string ⟨List.toArray []⟩)) hF22 (wantedS rfl) (run_as rfl (hF22.ev 27 rfl)) rfl (by decide) fun a23 hF23 => ?_
      refine sq (v := (.int .i64 6)) hF23 (wantedS rfl) (run_as rfl (hF23.ev 28 rfl)) rfl (by decide) fun a24 hF24 => ?_
      refine sqEnd ?_
      clear hF16 hF17 hF18 hF19 hF20 hF21 hF22 hF23 hM2
      refine nx ?_
      refine wp_seq ?_
      refine wp_seq ?_
      refine wp_region_lit ?_
      refine sq (v := (.int .i64 most)) hF24 (wantedS rfl) (run_mv rfl (hF24.ev 1 rfl)) rfl (by decide) fun a25 hF25 => ?_
      refine sq (v := (.string ⟨List.toArray []⟩)) hF25 (wantedS rfl) (run_mv rfl (hF25.ev 0 rfl)) rfl (by decide) fun a26 hF26 => ?_
      refine sq (v := (.int .i64 ([].length : Int))) hF26 (wantedS rfl) (run_len rfl (hF26.ev 30 rfl) rfl Try.underlying9) rfl (by decide) fun a27 hF27 => ?_
      refine sq (v := (.bool true)) hF27 (wantedS rfl) (run_lss rfl (hF27.ev 29 rfl) (hF27.ev 31 rfl) (decide_eq_true (by simp at h2 ⊢; omega))) rfl (by decide) fun a28 hF28 => ?_
      refine sqEnd ?_
      clear hF24 hF25 hF26 hF27
      refine nx ?_
      refine wp_cond_true (hF28.ev 32 rfl) ?_
      refine wp_seq ?_
      refine wp_region_lit ?_
      refine sq (v := (.string ⟨List.toArray []⟩)) hF28 (wantedS rfl) (run_mv rfl (hF28.ev 6 rfl)) rfl (by decide) fun a29 hF29 => ?_
      refine sq (v := (.string ⟨List.toArray []⟩)) hF29 (wantedS rfl) (run_mv rfl (hF29.ev 0 rfl)) rfl (by decide) fun a30 hF30 => ?_
      refine sq (v := (.bool true)) hF30 (wantedS rfl) (run_eqs rfl (hF30.ev 33 rfl) (hF30.ev 34 rfl) (beq_self_eq_true _)) rfl (by decide) fun a31 hF31 => ?_
      refine sq (v := (.bool true)) hF31 (wantedS rfl) (run_mv rfl (hF31.ev 35 rfl)) rfl (by decide) fun a32 hF32 => ?_
      refine sq (v := (.int .i64 0)) hF32 (wantedG hF32 rfl rfl rfl rfl rfl) (run_mv rfl (hF32.ev 7 rfl)) rfl (by decide) fun a33 hF33 => ?_
      refine sq (v := (.bool true)) hF33 (wantedG hF33 rfl rfl rfl rfl rfl) (run_eqi rfl (hF33.ev 37 rfl) rfl (beq_self_eq_true _)) rfl (by decide) fun a34 hF34 => ?_
      refine sq (v := (.bool true)) hF34 (wantedS rfl) (run_pick rfl (hF34.ev 36 rfl) (hF34.ev 38 rfl) rfl) rfl (by decide) fun a35 hF35 => ?_
      refine sq (v := (.bool true)) hF35 (wantedS rfl) (run_mv rfl (hF35.ev 39 rfl)) rfl (by decide) fun a36 hF36 => ?_
      refine sq (v := (.string ⟨List.toArray []⟩)) hF36 (wantedG hF36 rfl rfl rfl rfl rfl) (run_mv rfl (hF36.ev 8 rfl)) rfl (by decide) fun a37 hF37 => ?_
      refine sq (v := (.bool true)) hF37 (wantedG hF37 rfl rfl rfl rfl rfl) (run_eqs rfl (hF37.ev 41 rfl) rfl (beq_self_eq_true _)) rfl (by decide) fun a38 hF38 => ?_
      refine sq (v := (.bool true)) hF38 (wantedS rfl) (run_pick rfl (hF38.ev 40 rfl) (hF38.ev 42 rfl) rfl) rfl (by decide) fun a39 hF39 => ?_
      refine sq (v := (.bool true)) hF39 (wantedS rfl) (run_mv rfl (hF39.ev 43 rfl)) rfl (by decide) fun a40 hF40 => ?_
      refine sq (v := (.int .i64 6)) hF40 (wantedG hF40 rfl rfl rfl rfl rfl) (run_mv rfl (hF40.ev 9 rfl)) rfl (by decide) fun a41 hF41 => ?_
      refine sq (v := (.bool true)) hF41 (wantedG hF41 rfl rfl rfl rfl rfl) (run_eqi rfl (hF41.ev 45 rfl) rfl (beq_self_eq_true _)) rfl (by decide) fun a42 hF42 => ?_
      refine sq (v := (.bool true)) hF42 (wantedS rfl) (run_pick rfl (hF42.ev 44 rfl) (hF42.ev 46 rfl) rfl) rfl (by decide) fun a43 hF43 => ?_
      refine sq (v := (.bool true)) hF43 (wantedS rfl) (run_mv rfl (hF43.ev 47 rfl)) rfl (by decide) fun a44 hF44 => ?_
      refine sqC (v := (.bool true)) hF44 hM3 (wantedG hF44 rfl rfl rfl rfl rfl) (run_call rfl Try.func9 (by kernel_rfl) rfl (mapE0 )) rfl (by decide) (zawake_any w3) fun a45 w4 hb4 hF45 hM4 => ?_
      refine sq (v := (.bool true)) hF45 (wantedS rfl) (run_pick rfl (hF45.ev 48 rfl) (hF45.ev 49 rfl) rfl) rfl (by decide) fun a46 hF46 => ?_
      refine sq (v := (.bool true)) hF46 (wantedS rfl) (run_as rfl (hF46.ev 50 rfl)) rfl (by decide) fun a47 hF47 => ?_
      refine sqEnd ?_
      clear hF28 hF29 hF30 hF31 hF32 hF33 hF34 hF35 hF36 hF37 hF38 hF39 hF40 hF41 hF42 hF43 hF44 hF45 hF46 hM3
      refine nx ?_
      refine wp_ret ?_
      refine nxRet ?_
      exact ret1 hF47 rfl rfl ⟨rfl, hM4.below⟩
    · have hov := unpS_over s most hs h2
      refine walk_enter Try.func4 rfl rfl rfl fun a0 hF0 => ?_
      have hM0 := Mem.new w
      refine wp_seq ?_
      refine wp_region_lit ?_
      refine sq (v := (.bool false)) hF0 (wantedS rfl) (run_as rfl rfl) rfl (by decide) fun a1 hF1 => ?_
      refine sqEnd ?_
      clear hF0
      refine nx ?_
      refine wp_seq ?_
      refine wp_seq ?_
      refine wp_region_lit ?_
      refine sq (v := (.string ⟨s.toArray⟩)) hF1 (wantedS rfl) (run_mv rfl (hF1.ev 0 rfl)) rfl (by decide) fun a2 hF2 => ?_
      refine sq (v := (.int .i64 (s.length : Int))) hF2 (wantedS rfl) (run_len rfl (hF2.ev 10 rfl) rfl Try.underlying9) rfl (by decide) fun a3 hF3 => ?_
      refine sq (v := (.bool false)) hF3 (wantedS rfl) (run_gtr rfl (hF3.ev 11 rfl) rfl (decide_eq_false (by omega))) rfl (by decide) fun a4 hF4 => ?_
      refine sqEnd ?_
      clear hF1 hF2 hF3
      refine nx ?_
      refine wp_cond_false (hF4.ev 12 rfl) ?_
      refine wp_skip ?_
      refine nx ?_
      refine wp_seq ?_
      refine wp_region_lit ?_
      refine sq (v := (.string ⟨s.toArray⟩)) hF4 (wantedS rfl) (run_mv rfl (hF4.ev 0 rfl)) rfl (by decide) fun a5 hF5 => ?_
      refine sqC (v := (.string ⟨(packS s).toArray⟩)) hF5 hM0 (wantedS rfl) (run_call rfl Try.func10 (by kernel_rfl) rfl (mapE1 (hF5.ev 14 rfl))) rfl (by decide) (zpack_any s w (by omega)) fun a6 w1 hb1 hF6 hM1 => ?_
      refine sq (v := (.string ⟨(packS s).toArray⟩)) hF6 (wantedS rfl) (run_as rfl (hF6.ev 15 rfl)) rfl (by decide) fun a7 hF7 => ?_
      refine sqEnd ?_
      clear hF4 hF5 hF6 hM0
      refine nx ?_
      refine wp_seq ?_
      refine wp_region_lit ?_
      refine sq (v := (.string ⟨(packS s).toArray⟩)) hF7 (wantedS rfl) (run_mv rfl (hF7.ev 5 rfl)) rfl (by decide) fun a8 hF8 => ?_
      refine sq (v := (.string ⟨s.toArray⟩)) hF8 (wantedS rfl) (run_mv rfl (hF8.ev 0 rfl)) rfl (by decide) fun a9 hF9 => ?_
      refine sq (v := (.int .i64 (s.length : Int))) hF9 (wantedS rfl) (run_len rfl (hF9.ev 18 rfl) rfl Try.underlying9) rfl (by decide) fun a10 hF10 => ?_
      refine sqC (v := (.tuple #[(.string ⟨s.toArray⟩), (.int .i64 0)])) hF10 hM1 (wantedS rfl) (run_call rfl Try.func12 (by kernel_rfl) rfl (mapE2 (hF10.ev 17 rfl) (hF10.ev 19 rfl))) rfl (by decide) ((by have h := zunp_any (packS s) (s.length : Int) w1 (by omega) (by omega) (by omega); rw [unpS_fit s _ (Int.le_refl _)] at h; exact h)) fun a11 w2 hb2 hF11 hM2 => ?_
      refine sq (v := (.tuple #[(.string ⟨s.toArray⟩), (.int .i64 0)])) hF11 (wantedS rfl) (run_mv rfl (hF11.ev 20 rfl)) rfl (by decide) fun a12 hF12 => ?_
      refine sq (v := (.string ⟨s.toArray⟩)) hF12 (wantedS rfl) (run_ext rfl (hF12.ev 16 rfl) rfl) rfl (by decide) fun a13 hF13 => ?_
      refine sq (v := (.int .i64 0)) hF13 (wantedS rfl) (run_ext rfl (hF13.ev 16 rfl) rfl) rfl (by decide) fun a14 hF14 => ?_
      refine sq (v := (.string ⟨s.toArray⟩)) hF14 (wantedS rfl) (run_as rfl (hF14.ev 21 rfl)) rfl (by decide) fun a15 hF15 => ?_
      refine sq (v := (.int .i64 0)) hF15 (wantedS rfl) (run_as rfl (hF15.ev 22 rfl)) rfl (by decide) fun a16 hF16 => ?_
      refine sqEnd ?_
      clear hF7 hF8 hF9 hF10 hF11 hF12 hF13 hF14 hF15 hM1
      refine nx ?_
      refine wp_seq ?_
      refine wp_region_lit ?_
      refine sq (v := (.string ⟨(packS s).toArray⟩)) hF16 (wantedS rfl) (run_mv rfl (hF16.ev 5 rfl)) rfl (by decide) fun a17 hF17 => ?_
      refine sq (v := (.int .i64 most)) hF17 (wantedS rfl) (run_mv rfl (hF17.ev 1 rfl)) rfl (by decide) fun a18 hF18 => ?_
      refine sqC (v := (.tuple #[(.string ⟨List.toArray []⟩), (.int .i64 6)])) hF18 hM2 (wantedS rfl) (run_call rfl Try.func12 (by kernel_rfl) rfl (mapE2 (hF18.ev 24 rfl) (hF18.ev 25 rfl))) rfl (by decide) ((by have h := zunp_any (packS s) most w2 (by omega) hm1 hm2; rw [hov] at h; exact h)) fun a19 w3 hb3 hF19 hM3 => ?_
      refine sq (v := (.tuple #[(.string ⟨List.toArray []⟩), (.int .i64 6)])) hF19 (wantedS rfl) (run_mv rfl (hF19.ev 26 rfl)) rfl (by decide) fun a20 hF20 => ?_
      refine sq (v := (.string ⟨List.toArray []⟩)) hF20 (wantedS rfl) (run_ext rfl (hF20.ev 23 rfl) rfl) rfl (by decide) fun a21 hF21 => ?_
      refine sq (v := (.int .i64 6)) hF21 (wantedS rfl) (run_ext rfl (hF21.ev 23 rfl) rfl) rfl (by decide) fun a22 hF22 => ?_
      refine sq (v := (.string ⟨List.toArray []⟩)) hF22 (wantedS rfl) (run_as rfl (hF22.ev 27 rfl)) rfl (by decide) fun a23 hF23 => ?_
      refine sq (v := (.int .i64 6)) hF23 (wantedS rfl) (run_as rfl (hF23.ev 28 rfl)) rfl (by decide) fun a24 hF24 => ?_
      refine sqEnd ?_
      clear hF16 hF17 hF18 hF19 hF20 hF21 hF22 hF23 hM2
      refine nx ?_
      refine wp_seq ?_
      refine wp_seq ?_
      refine wp_region_lit ?_
      refine sq (v := (.int .i64 most)) hF24 (wantedS rfl) (run_mv rfl (hF24.ev 1 rfl)) rfl (by decide) fun a25 hF25 => ?_
      refine sq (v := (.string ⟨s.toArray⟩)) hF25 (wantedS rfl) (run_mv rfl (hF25.ev 0 rfl)) rfl (by decide) fun a26 hF26 => ?_
      refine sq (v := (.int .i64 (s.length : Int))) hF26 (wantedS rfl) (run_len rfl (hF26.ev 30 rfl) rfl Try.underlying9) rfl (by decide) fun a27 hF27 => ?_
      refine sq (v := (.bool true)) hF27 (wantedS rfl) (run_lss rfl (hF27.ev 29 rfl) (hF27.ev 31 rfl) (decide_eq_true (by omega))) rfl (by decide) fun a28 hF28 => ?_
      refine sqEnd ?_
      clear hF24 hF25 hF26 hF27
      refine nx ?_
      refine wp_cond_true (hF28.ev 32 rfl) ?_
      refine wp_seq ?_
      refine wp_region_lit ?_
      refine sq (v := (.string ⟨s.toArray⟩)) hF28 (wantedS rfl) (run_mv rfl (hF28.ev 6 rfl)) rfl (by decide) fun a29 hF29 => ?_
      refine sq (v := (.string ⟨s.toArray⟩)) hF29 (wantedS rfl) (run_mv rfl (hF29.ev 0 rfl)) rfl (by decide) fun a30 hF30 => ?_
      refine sq (v := (.bool true)) hF30 (wantedS rfl) (run_eqs rfl (hF30.ev 33 rfl) (hF30.ev 34 rfl) (beq_self_eq_true _)) rfl (by decide) fun a31 hF31 => ?_
      refine sq (v := (.bool true)) hF31 (wantedS rfl) (run_mv rfl (hF31.ev 35 rfl)) rfl (by decide) fun a32 hF32 => ?_
      refine sq (v := (.int .i64 0)) hF32 (wantedG hF32 rfl rfl rfl rfl rfl) (run_mv rfl (hF32.ev 7 rfl)) rfl (by decide) fun a33 hF33 => ?_
      refine sq (v := (.bool true)) hF33 (wantedG hF33 rfl rfl rfl rfl rfl) (run_eqi rfl (hF33.ev 37 rfl) rfl (beq_self_eq_true _)) rfl (by decide) fun a34 hF34 => ?_
      refine sq (v := (.bool true)) hF34 (wantedS rfl) (run_pick rfl (hF34.ev 36 rfl) (hF34.ev 38 rfl) rfl) rfl (by decide) fun a35 hF35 => ?_
      refine sq (v := (.bool true)) hF35 (wantedS rfl) (run_mv rfl (hF35.ev 39 rfl)) rfl (by decide) fun a36 hF36 => ?_
      refine sq (v := (.string ⟨List.toArray []⟩)) hF36 (wantedG hF36 rfl rfl rfl rfl rfl) (run_mv rfl (hF36.ev 8 rfl)) rfl (by decide) fun a37 hF37 => ?_
      refine sq (v := (.bool true)) hF37 (wantedG hF37 rfl rfl rfl rfl rfl) (run_eqs rfl (hF37.ev 41 rfl) rfl (beq_self_eq_true _)) rfl (by decide) fun a38 hF38 => ?_
      refine sq (v := (.bool true)) hF38 (wantedS rfl) (run_pick rfl (hF38.ev 40 rfl) (hF38.ev 42 rfl) rfl) rfl (by decide) fun a39 hF39 => ?_
      refine sq (v := (.bool true)) hF39 (wantedS rfl) (run_mv rfl (hF39.ev 43 rfl)) rfl (by decide) fun a40 hF40 => ?_
      refine sq (v := (.int .i64 6)) hF40 (wantedG hF40 rfl rfl rfl rfl rfl) (run_mv rfl (hF40.ev 9 rfl)) rfl (by decide) fun a41 hF41 => ?_
      refine sq (v := (.bool true)) hF41 (wantedG hF41 rfl rfl rfl rfl rfl) (run_eqi rfl (hF41.ev 45 rfl) rfl (beq_self_eq_true _)) rfl (by decide) fun a42 hF42 => ?_
      refine sq (v := (.bool true)) hF42 (wantedS rfl) (run_pick rfl (hF42.ev 44 rfl) (hF42.ev 46 rfl) rfl) rfl (by decide) fun a43 hF43 => ?_
      refine sq (v := (.bool true)) hF43 (wantedS rfl) (run_mv rfl (hF43.ev 47 rfl)) rfl (by decide) fun a44 hF44 => ?_
      refine sqC (v := (.bool true)) hF44 hM3 (wantedG hF44 rfl rfl rfl rfl rfl) (run_call rfl Try.func9 (by kernel_rfl) rfl (mapE0 )) rfl (by decide) (zawake_any w3) fun a45 w4 hb4 hF45 hM4 => ?_
      refine sq (v := (.bool true)) hF45 (wantedS rfl) (run_pick rfl (hF45.ev 48 rfl) (hF45.ev 49 rfl) rfl) rfl (by decide) fun a46 hF46 => ?_
      refine sq (v := (.bool true)) hF46 (wantedS rfl) (run_as rfl (hF46.ev 50 rfl)) rfl (by decide) fun a47 hF47 => ?_
      refine sqEnd ?_
      clear hF28 hF29 hF30 hF31 hF32 hF33 hF34 hF35 hF36 hF37 hF38 hF39 hF40 hF41 hF42 hF43 hF44 hF45 hF46 hM3
      refine nx ?_
      refine wp_ret ?_
      refine nxRet ?_
      exact ret1 hF47 rfl rfl ⟨rfl, hM4.below⟩
  · have hfit := unpS_fit s most (by omega)
    refine walk_enter Try.func4 rfl rfl rfl fun a0 hF0 => ?_
    have hM0 := Mem.new w
    refine wp_seq ?_
    refine wp_region_lit ?_
    refine sq (v := (.bool false)) hF0 (wantedS rfl) (run_as rfl rfl) rfl (by decide) fun a1 hF1 => ?_
    refine sqEnd ?_
    clear hF0
    refine nx ?_
    refine wp_seq ?_
    refine wp_seq ?_
    refine wp_region_lit ?_
    refine sq (v := (.string ⟨s.toArray⟩)) hF1 (wantedS rfl) (run_mv rfl (hF1.ev 0 rfl)) rfl (by decide) fun a2 hF2 => ?_
    refine sq (v := (.int .i64 (s.length : Int))) hF2 (wantedS rfl) (run_len rfl (hF2.ev 10 rfl) rfl Try.underlying9) rfl (by decide) fun a3 hF3 => ?_
    refine sq (v := (.bool false)) hF3 (wantedS rfl) (run_gtr rfl (hF3.ev 11 rfl) rfl (decide_eq_false (by omega))) rfl (by decide) fun a4 hF4 => ?_
    refine sqEnd ?_
    clear hF1 hF2 hF3
    refine nx ?_
    refine wp_cond_false (hF4.ev 12 rfl) ?_
    refine wp_skip ?_
    refine nx ?_
    refine wp_seq ?_
    refine wp_region_lit ?_
    refine sq (v := (.string ⟨s.toArray⟩)) hF4 (wantedS rfl) (run_mv rfl (hF4.ev 0 rfl)) rfl (by decide) fun a5 hF5 => ?_
    refine sqC (v := (.string ⟨(packS s).toArray⟩)) hF5 hM0 (wantedS rfl) (run_call rfl Try.func10 (by kernel_rfl) rfl (mapE1 (hF5.ev 14 rfl))) rfl (by decide) (zpack_any s w (by omega)) fun a6 w1 hb1 hF6 hM1 => ?_
    refine sq (v := (.string ⟨(packS s).toArray⟩)) hF6 (wantedS rfl) (run_as rfl (hF6.ev 15 rfl)) rfl (by decide) fun a7 hF7 => ?_
    refine sqEnd ?_
    clear hF4 hF5 hF6 hM0
    refine nx ?_
    refine wp_seq ?_
    refine wp_region_lit ?_
    refine sq (v := (.string ⟨(packS s).toArray⟩)) hF7 (wantedS rfl) (run_mv rfl (hF7.ev 5 rfl)) rfl (by decide) fun a8 hF8 => ?_
    refine sq (v := (.string ⟨s.toArray⟩)) hF8 (wantedS rfl) (run_mv rfl (hF8.ev 0 rfl)) rfl (by decide) fun a9 hF9 => ?_
    refine sq (v := (.int .i64 (s.length : Int))) hF9 (wantedS rfl) (run_len rfl (hF9.ev 18 rfl) rfl Try.underlying9) rfl (by decide) fun a10 hF10 => ?_
    refine sqC (v := (.tuple #[(.string ⟨s.toArray⟩), (.int .i64 0)])) hF10 hM1 (wantedS rfl) (run_call rfl Try.func12 (by kernel_rfl) rfl (mapE2 (hF10.ev 17 rfl) (hF10.ev 19 rfl))) rfl (by decide) ((by have h := zunp_any (packS s) (s.length : Int) w1 (by omega) (by omega) (by omega); rw [unpS_fit s _ (Int.le_refl _)] at h; exact h)) fun a11 w2 hb2 hF11 hM2 => ?_
    refine sq (v := (.tuple #[(.string ⟨s.toArray⟩), (.int .i64 0)])) hF11 (wantedS rfl) (run_mv rfl (hF11.ev 20 rfl)) rfl (by decide) fun a12 hF12 => ?_
    refine sq (v := (.string ⟨s.toArray⟩)) hF12 (wantedS rfl) (run_ext rfl (hF12.ev 16 rfl) rfl) rfl (by decide) fun a13 hF13 => ?_
    refine sq (v := (.int .i64 0)) hF13 (wantedS rfl) (run_ext rfl (hF13.ev 16 rfl) rfl) rfl (by decide) fun a14 hF14 => ?_
    refine sq (v := (.string ⟨s.toArray⟩)) hF14 (wantedS rfl) (run_as rfl (hF14.ev 21 rfl)) rfl (by decide) fun a15 hF15 => ?_
    refine sq (v := (.int .i64 0)) hF15 (wantedS rfl) (run_as rfl (hF15.ev 22 rfl)) rfl (by decide) fun a16 hF16 => ?_
    refine sqEnd ?_
    clear hF7 hF8 hF9 hF10 hF11 hF12 hF13 hF14 hF15 hM1
    refine nx ?_
    refine wp_seq ?_
    refine wp_region_lit ?_
    refine sq (v := (.string ⟨(packS s).toArray⟩)) hF16 (wantedS rfl) (run_mv rfl (hF16.ev 5 rfl)) rfl (by decide) fun a17 hF17 => ?_
    refine sq (v := (.int .i64 most)) hF17 (wantedS rfl) (run_mv rfl (hF17.ev 1 rfl)) rfl (by decide) fun a18 hF18 => ?_
    refine sqC (v := (.tuple #[(.string ⟨s.toArray⟩), (.int .i64 0)])) hF18 hM2 (wantedS rfl) (run_call rfl Try.func12 (by kernel_rfl) rfl (mapE2 (hF18.ev 24 rfl) (hF18.ev 25 rfl))) rfl (by decide) ((by have h := zunp_any (packS s) most w2 (by omega) hm1 hm2; rw [hfit] at h; exact h)) fun a19 w3 hb3 hF19 hM3 => ?_
    refine sq (v := (.tuple #[(.string ⟨s.toArray⟩), (.int .i64 0)])) hF19 (wantedS rfl) (run_mv rfl (hF19.ev 26 rfl)) rfl (by decide) fun a20 hF20 => ?_
    refine sq (v := (.string ⟨s.toArray⟩)) hF20 (wantedS rfl) (run_ext rfl (hF20.ev 23 rfl) rfl) rfl (by decide) fun a21 hF21 => ?_
    refine sq (v := (.int .i64 0)) hF21 (wantedS rfl) (run_ext rfl (hF21.ev 23 rfl) rfl) rfl (by decide) fun a22 hF22 => ?_
    refine sq (v := (.string ⟨s.toArray⟩)) hF22 (wantedS rfl) (run_as rfl (hF22.ev 27 rfl)) rfl (by decide) fun a23 hF23 => ?_
    refine sq (v := (.int .i64 0)) hF23 (wantedS rfl) (run_as rfl (hF23.ev 28 rfl)) rfl (by decide) fun a24 hF24 => ?_
    refine sqEnd ?_
    clear hF16 hF17 hF18 hF19 hF20 hF21 hF22 hF23 hM2
    refine nx ?_
    refine wp_seq ?_
    refine wp_seq ?_
    refine wp_region_lit ?_
    refine sq (v := (.int .i64 most)) hF24 (wantedS rfl) (run_mv rfl (hF24.ev 1 rfl)) rfl (by decide) fun a25 hF25 => ?_
    refine sq (v := (.string ⟨s.toArray⟩)) hF25 (wantedS rfl) (run_mv rfl (hF25.ev 0 rfl)) rfl (by decide) fun a26 hF26 => ?_
    refine sq (v := (.int .i64 (s.length : Int))) hF26 (wantedS rfl) (run_len rfl (hF26.ev 30 rfl) rfl Try.underlying9) rfl (by decide) fun a27 hF27 => ?_
    refine sq (v := (.bool false)) hF27 (wantedS rfl) (run_lss rfl (hF27.ev 29 rfl) (hF27.ev 31 rfl) (decide_eq_false (by omega))) rfl (by decide) fun a28 hF28 => ?_
    refine sqEnd ?_
    clear hF24 hF25 hF26 hF27
    refine nx ?_
    refine wp_cond_false (hF28.ev 32 rfl) ?_
    refine wp_skip ?_
    refine nx ?_
    refine wp_seq ?_
    refine wp_region_lit ?_
    refine sq (v := (.string ⟨s.toArray⟩)) hF28 (wantedS rfl) (run_mv rfl (hF28.ev 6 rfl)) rfl (by decide) fun a29 hF29 => ?_
    refine sq (v := (.string ⟨s.toArray⟩)) hF29 (wantedS rfl) (run_mv rfl (hF29.ev 0 rfl)) rfl (by decide) fun a30 hF30 => ?_
    refine sq (v := (.bool true)) hF30 (wantedS rfl) (run_eqs rfl (hF30.ev 51 rfl) (hF30.ev 52 rfl) (beq_self_eq_true _)) rfl (by decide) fun a31 hF31 => ?_
    refine sq (v := (.bool true)) hF31 (wantedS rfl) (run_mv rfl (hF31.ev 53 rfl)) rfl (by decide) fun a32 hF32 => ?_
    refine sq (v := (.int .i64 0)) hF32 (wantedG hF32 rfl rfl rfl rfl rfl) (run_mv rfl (hF32.ev 7 rfl)) rfl (by decide) fun a33 hF33 => ?_
    refine sq (v := (.bool true)) hF33 (wantedG hF33 rfl rfl rfl rfl rfl) (run_eqi rfl (hF33.ev 55 rfl) rfl (beq_self_eq_true _)) rfl (by decide) fun a34 hF34 => ?_
    refine sq (v := (.bool true)) hF34 (wantedS rfl) (run_pick rfl (hF34.ev 54 rfl) (hF34.ev 56 rfl) rfl) rfl (by decide) fun a35 hF35 => ?_
    refine sq (v := (.bool true)) hF35 (wantedS rfl) (run_mv rfl (hF35.ev 57 rfl)) rfl (by decide) fun a36 hF36 => ?_
    refine sq (v := (.string ⟨s.toArray⟩)) hF36 (wantedG hF36 rfl rfl rfl rfl rfl) (run_mv rfl (hF36.ev 8 rfl)) rfl (by decide) fun a37 hF37 => ?_
    refine sq (v := (.string ⟨s.toArray⟩)) hF37 (wantedG hF37 rfl rfl rfl rfl rfl) (run_mv rfl (hF37.ev 0 rfl)) rfl (by decide) fun a38 hF38 => ?_
    refine sq (v := (.bool true)) hF38 (wantedG hF38 rfl rfl rfl rfl rfl) (run_eqs rfl (hF38.ev 59 rfl) (hF38.ev 60 rfl) (beq_self_eq_true _)) rfl (by decide) fun a39 hF39 => ?_
    refine sq (v := (.bool true)) hF39 (wantedS rfl) (run_pick rfl (hF39.ev 58 rfl) (hF39.ev 61 rfl) rfl) rfl (by decide) fun a40 hF40 => ?_
    refine sq (v := (.bool true)) hF40 (wantedS rfl) (run_mv rfl (hF40.ev 62 rfl)) rfl (by decide) fun a41 hF41 => ?_
    refine sq (v := (.int .i64 0)) hF41 (wantedG hF41 rfl rfl rfl rfl rfl) (run_mv rfl (hF41.ev 9 rfl)) rfl (by decide) fun a42 hF42 => ?_
    refine sq (v := (.bool true)) hF42 (wantedG hF42 rfl rfl rfl rfl rfl) (run_eqi rfl (hF42.ev 64 rfl) rfl (beq_self_eq_true _)) rfl (by decide) fun a43 hF43 => ?_
    refine sq (v := (.bool true)) hF43 (wantedS rfl) (run_pick rfl (hF43.ev 63 rfl) (hF43.ev 65 rfl) rfl) rfl (by decide) fun a44 hF44 => ?_
    refine sq (v := (.bool true)) hF44 (wantedS rfl) (run_mv rfl (hF44.ev 66 rfl)) rfl (by decide) fun a45 hF45 => ?_
    refine sqC (v := (.bool true)) hF45 hM3 (wantedG hF45 rfl rfl rfl rfl rfl) (run_call rfl Try.func9 (by kernel_rfl) rfl (mapE0 )) rfl (by decide) (zawake_any w3) fun a46 w4 hb4 hF46 hM4 => ?_
    refine sq (v := (.bool true)) hF46 (wantedS rfl) (run_pick rfl (hF46.ev 67 rfl) (hF46.ev 68 rfl) rfl) rfl (by decide) fun a47 hF47 => ?_
    refine sq (v := (.bool true)) hF47 (wantedS rfl) (run_as rfl (hF47.ev 69 rfl)) rfl (by decide) fun a48 hF48 => ?_
    refine sqEnd ?_
    clear hF28 hF29 hF30 hF31 hF32 hF33 hF34 hF35 hF36 hF37 hF38 hF39 hF40 hF41 hF42 hF43 hF44 hF45 hF46 hF47 hM3
    refine nx ?_
    refine wp_ret ?_
    exact ret1 hF48 rfl rfl ⟨rfl, hM4.below⟩
set_option maxRecDepth 100000 in
set_option maxHeartbeats 1000000 in
theorem lawZUnpacks_any (b : List UInt8) (most : Int) (w : World) (_hm : b.length ≤ maxLen) (hm1 : -9223372036854775808 ≤ most) (hm2 : most ≤ 9223372036854775807) : Calls Try.prog 5 #[.string ⟨b.toArray⟩, .int .i64 most] w fun e w' => e = .returned (.bool true) ∧ Below w.heap.size w w' := by
  by_cases h : 300 < b.length
  · skip
    refine walk_enter Try.func5 rfl rfl rfl fun a0 hF0 => ?_
    have hM0 := Mem.new w
    refine wp_seq ?_
    refine wp_region_lit ?_
    refine sq (v := (.bool false)) hF0 (wantedS rfl) (run_as rfl rfl) rfl (by decide) fun a1 hF1 => ?_
    refine sqEnd ?_
    clear hF0
    refine nx ?_
    refine wp_seq ?_
    refine wp_seq ?_
    refine wp_region_lit ?_
    refine sq (v := (.string ⟨b.toArray⟩)) hF1 (wantedS rfl) (run_mv rfl (hF1.ev 0 rfl)) rfl (by decide) fun a2 hF2 => ?_
    refine sq (v := (.int .i64 (b.length : Int))) hF2 (wantedS rfl) (run_len rfl (hF2.ev 9 rfl) rfl Try.underlying9) rfl (by decide) fun a3 hF3 => ?_
    refine sq (v := (.bool true)) hF3 (wantedS rfl) (run_gtr rfl (hF3.ev 10 rfl) rfl (decide_eq_true (by omega))) rfl (by decide) fun a4 hF4 => ?_
    refine sq (v := (.bool true)) hF4 (wantedS rfl) (run_mv rfl (hF4.ev 11 rfl)) rfl (by decide) fun a5 hF5 => ?_
    refine sqSkip hF5 (unwantedG hF5 rfl rfl rfl rfl rfl) rfl (by decide) fun a6 hF6 => ?_
    refine sqSkip hF6 (unwantedG hF6 rfl rfl rfl rfl rfl) rfl (by decide) fun a7 hF7 => ?_
    refine sq (v := (.bool true)) hF7 (wantedS rfl) (run_pick rfl (hF7.ev 12 rfl) rfl (hF7.ev 14 rfl)) rfl (by decide) fun a8 hF8 => ?_
    refine sqEnd ?_
    clear hF1 hF2 hF3 hF4 hF5 hF6 hF7
    refine nx ?_
    refine wp_cond_true (hF8.ev 15 rfl) ?_
    refine wp_seq ?_
    refine wp_region_lit ?_
    refine sqC (v := (.bool true)) hF8 hM0 (wantedS rfl) (run_call rfl Try.func9 (by kernel_rfl) rfl (mapE0 )) rfl (by decide) (zawake_any w) fun a9 w1 hb1 hF9 hM1 => ?_
    refine sq (v := (.bool true)) hF9 (wantedS rfl) (run_as rfl (hF9.ev 16 rfl)) rfl (by decide) fun a10 hF10 => ?_
    refine sqEnd ?_
    clear hF8 hF9 hM0
    refine nx ?_
    refine wp_ret ?_
    refine nxRet ?_
    exact ret1 hF10 rfl rfl ⟨rfl, hM1.below⟩
  by_cases h2 : 3000 < most
  · skip
    refine walk_enter Try.func5 rfl rfl rfl fun a0 hF0 => ?_
    have hM0 := Mem.new w
    refine wp_seq ?_
    refine wp_region_lit ?_
    refine sq (v := (.bool false)) hF0 (wantedS rfl) (run_as rfl rfl) rfl (by decide) fun a1 hF1 => ?_
    refine sqEnd ?_
    clear hF0
    refine nx ?_
    refine wp_seq ?_
    refine wp_seq ?_
    refine wp_region_lit ?_
    refine sq (v := (.string ⟨b.toArray⟩)) hF1 (wantedS rfl) (run_mv rfl (hF1.ev 0 rfl)) rfl (by decide) fun a2 hF2 => ?_
    refine sq (v := (.int .i64 (b.length : Int))) hF2 (wantedS rfl) (run_len rfl (hF2.ev 9 rfl) rfl Try.underlying9) rfl (by decide) fun a3 hF3 => ?_
    refine sq (v := (.bool false)) hF3 (wantedS rfl) (run_gtr rfl (hF3.ev 10 rfl) rfl (decide_eq_false (by omega))) rfl (by decide) fun a4 hF4 => ?_
    refine sq (v := (.bool false)) hF4 (wantedS rfl) (run_mv rfl (hF4.ev 11 rfl)) rfl (by decide) fun a5 hF5 => ?_
    refine sq (v := (.int .i64 most)) hF5 (wantedG hF5 rfl rfl rfl rfl rfl) (run_mv rfl (hF5.ev 1 rfl)) rfl (by decide) fun a6 hF6 => ?_
    refine sq (v := (.bool true)) hF6 (wantedG hF6 rfl rfl rfl rfl rfl) (run_gtr rfl (hF6.ev 13 rfl) rfl (decide_eq_true (by omega))) rfl (by decide) fun a7 hF7 => ?_
    refine sq (v := (.bool true)) hF7 (wantedS rfl) (run_pick rfl (hF7.ev 12 rfl) rfl (hF7.ev 14 rfl)) rfl (by decide) fun a8 hF8 => ?_
    refine sqEnd ?_
    clear hF1 hF2 hF3 hF4 hF5 hF6 hF7
    refine nx ?_
    refine wp_cond_true (hF8.ev 15 rfl) ?_
    refine wp_seq ?_
    refine wp_region_lit ?_
    refine sqC (v := (.bool true)) hF8 hM0 (wantedS rfl) (run_call rfl Try.func9 (by kernel_rfl) rfl (mapE0 )) rfl (by decide) (zawake_any w) fun a9 w1 hb1 hF9 hM1 => ?_
    refine sq (v := (.bool true)) hF9 (wantedS rfl) (run_as rfl (hF9.ev 16 rfl)) rfl (by decide) fun a10 hF10 => ?_
    refine sqEnd ?_
    clear hF8 hF9 hM0
    refine nx ?_
    refine wp_ret ?_
    refine nxRet ?_
    exact ret1 hF10 rfl rfl ⟨rfl, hM1.below⟩
  · skip
    refine walk_enter Try.func5 rfl rfl rfl fun a0 hF0 => ?_
    have hM0 := Mem.new w
    refine wp_seq ?_
    refine wp_region_lit ?_
    refine sq (v := (.bool false)) hF0 (wantedS rfl) (run_as rfl rfl) rfl (by decide) fun a1 hF1 => ?_
    refine sqEnd ?_
    clear hF0
    refine nx ?_
    refine wp_seq ?_
    refine wp_seq ?_
    refine wp_region_lit ?_
    refine sq (v := (.string ⟨b.toArray⟩)) hF1 (wantedS rfl) (run_mv rfl (hF1.ev 0 rfl)) rfl (by decide) fun a2 hF2 => ?_
    refine sq (v := (.int .i64 (b.length : Int))) hF2 (wantedS rfl) (run_len rfl (hF2.ev 9 rfl) rfl Try.underlying9) rfl (by decide) fun a3 hF3 => ?_
    refine sq (v := (.bool false)) hF3 (wantedS rfl) (run_gtr rfl (hF3.ev 10 rfl) rfl (decide_eq_false (by omega))) rfl (by decide) fun a4 hF4 => ?_
    refine sq (v := (.bool false)) hF4 (wantedS rfl) (run_mv rfl (hF4.ev 11 rfl)) rfl (by decide) fun a5 hF5 => ?_
    refine sq (v := (.int .i64 most)) hF5 (wantedG hF5 rfl rfl rfl rfl rfl) (run_mv rfl (hF5.ev 1 rfl)) rfl (by decide) fun a6 hF6 => ?_
    refine sq (v := (.bool false)) hF6 (wantedG hF6 rfl rfl rfl rfl rfl) (run_gtr rfl (hF6.ev 13 rfl) rfl (decide_eq_false (by omega))) rfl (by decide) fun a7 hF7 => ?_
    refine sq (v := (.bool false)) hF7 (wantedS rfl) (run_pick rfl (hF7.ev 12 rfl) rfl (hF7.ev 14 rfl)) rfl (by decide) fun a8 hF8 => ?_
    refine sqEnd ?_
    clear hF1 hF2 hF3 hF4 hF5 hF6 hF7
    refine nx ?_
    refine wp_cond_false (hF8.ev 15 rfl) ?_
    refine wp_skip ?_
    refine nx ?_
    refine wp_seq ?_
    refine wp_region_lit ?_
    refine sq (v := (.string ⟨b.toArray⟩)) hF8 (wantedS rfl) (run_mv rfl (hF8.ev 0 rfl)) rfl (by decide) fun a9 hF9 => ?_
    refine sq (v := (.int .i64 most)) hF9 (wantedS rfl) (run_mv rfl (hF9.ev 1 rfl)) rfl (by decide) fun a10 hF10 => ?_
    refine sqC (v := (.tuple #[(.string ⟨((unpS b most).1).toArray⟩), (.int .i64 ((unpS b most).2))])) hF10 hM0 (wantedS rfl) (run_call rfl Try.func12 (by kernel_rfl) rfl (mapE2 (hF10.ev 18 rfl) (hF10.ev 19 rfl))) rfl (by decide) (zunp_any b most w (by omega) hm1 hm2) fun a11 w1 hb1 hF11 hM1 => ?_
    refine sq (v := (.tuple #[(.string ⟨((unpS b most).1).toArray⟩), (.int .i64 ((unpS b most).2))])) hF11 (wantedS rfl) (run_mv rfl (hF11.ev 20 rfl)) rfl (by decide) fun a12 hF12 => ?_
    refine sq (v := (.string ⟨((unpS b most).1).toArray⟩)) hF12 (wantedS rfl) (run_ext rfl (hF12.ev 17 rfl) rfl) rfl (by decide) fun a13 hF13 => ?_
    refine sq (v := (.int .i64 ((unpS b most).2))) hF13 (wantedS rfl) (run_ext rfl (hF13.ev 17 rfl) rfl) rfl (by decide) fun a14 hF14 => ?_
    refine sq (v := (.string ⟨((unpS b most).1).toArray⟩)) hF14 (wantedS rfl) (run_as rfl (hF14.ev 21 rfl)) rfl (by decide) fun a15 hF15 => ?_
    refine sq (v := (.int .i64 ((unpS b most).2))) hF15 (wantedS rfl) (run_as rfl (hF15.ev 22 rfl)) rfl (by decide) fun a16 hF16 => ?_
    refine sqEnd ?_
    clear hF8 hF9 hF10 hF11 hF12 hF13 hF14 hF15 hM0
    refine nx ?_
    refine wp_seq ?_
    refine wp_region_lit ?_
    refine sq (v := (.string ⟨b.toArray⟩)) hF16 (wantedS rfl) (run_mv rfl (hF16.ev 0 rfl)) rfl (by decide) fun a17 hF17 => ?_
    refine sq (v := (.int .i64 most)) hF17 (wantedS rfl) (run_mv rfl (hF17.ev 1 rfl)) rfl (by decide) fun a18 hF18 => ?_
    refine sqC (v := (.tuple #[(.string ⟨((unpS b most).1).toArray⟩), (.int .i64 ((unpS b most).2))])) hF18 hM1 (wantedS rfl) (run_call rfl Try.func13 (by kernel_rfl) rfl (mapE2 (hF18.ev 24 rfl) (hF18.ev 25 rfl))) rfl (by decide) (runp_any b most w1 (by omega) hm1 hm2) fun a19 w2 hb2 hF19 hM2 => ?_
    refine sq (v := (.tuple #[(.string ⟨((unpS b most).1).toArray⟩), (.int .i64 ((unpS b most).2))])) hF19 (wantedS rfl) (run_mv rfl (hF19.ev 26 rfl)) rfl (by decide) fun a20 hF20 => ?_
    refine sq (v := (.string ⟨((unpS b most).1).toArray⟩)) hF20 (wantedS rfl) (run_ext rfl (hF20.ev 23 rfl) rfl) rfl (by decide) fun a21 hF21 => ?_
    refine sq (v := (.int .i64 ((unpS b most).2))) hF21 (wantedS rfl) (run_ext rfl (hF21.ev 23 rfl) rfl) rfl (by decide) fun a22 hF22 => ?_
    refine sq (v := (.string ⟨((unpS b most).1).toArray⟩)) hF22 (wantedS rfl) (run_as rfl (hF22.ev 27 rfl)) rfl (by decide) fun a23 hF23 => ?_
    refine sq (v := (.int .i64 ((unpS b most).2))) hF23 (wantedS rfl) (run_as rfl (hF23.ev 28 rfl)) rfl (by decide) fun a24 hF24 => ?_
    refine sqEnd ?_
    clear hF16 hF17 hF18 hF19 hF20 hF21 hF22 hF23 hM1
    refine nx ?_
    refine wp_seq ?_
    refine wp_region_lit ?_
    refine sq (v := (.string ⟨((unpS b most).1).toArray⟩)) hF24 (wantedS rfl) (run_mv rfl (hF24.ev 5 rfl)) rfl (by decide) fun a25 hF25 => ?_
    refine sq (v := (.string ⟨((unpS b most).1).toArray⟩)) hF25 (wantedS rfl) (run_mv rfl (hF25.ev 7 rfl)) rfl (by decide) fun a26 hF26 => ?_
    refine sq (v := (.bool true)) hF26 (wantedS rfl) (run_eqs rfl (hF26.ev 29 rfl) (hF26.ev 30 rfl) (beq_self_eq_true _)) rfl (by decide) fun a27 hF27 => ?_
    refine sq (v := (.bool true)) hF27 (wantedS rfl) (run_mv rfl (hF27.ev 31 rfl)) rfl (by decide) fun a28 hF28 => ?_
    refine sq (v := (.int .i64 ((unpS b most).2))) hF28 (wantedG hF28 rfl rfl rfl rfl rfl) (run_mv rfl (hF28.ev 6 rfl)) rfl (by decide) fun a29 hF29 => ?_
    refine sq (v := (.int .i64 ((unpS b most).2))) hF29 (wantedG hF29 rfl rfl rfl rfl rfl) (run_mv rfl (hF29.ev 8 rfl)) rfl (by decide) fun a30 hF30 => ?_
    refine sq (v := (.bool true)) hF30 (wantedG hF30 rfl rfl rfl rfl rfl) (run_eqi rfl (hF30.ev 33 rfl) (hF30.ev 34 rfl) (beq_self_eq_true _)) rfl (by decide) fun a31 hF31 => ?_
    refine sq (v := (.bool true)) hF31 (wantedS rfl) (run_pick rfl (hF31.ev 32 rfl) (hF31.ev 35 rfl) rfl) rfl (by decide) fun a32 hF32 => ?_
    refine sq (v := (.bool true)) hF32 (wantedS rfl) (run_mv rfl (hF32.ev 36 rfl)) rfl (by decide) fun a33 hF33 => ?_
    refine sqC (v := (.bool true)) hF33 hM2 (wantedG hF33 rfl rfl rfl rfl rfl) (run_call rfl Try.func9 (by kernel_rfl) rfl (mapE0 )) rfl (by decide) (zawake_any w2) fun a34 w3 hb3 hF34 hM3 => ?_
    refine sq (v := (.bool true)) hF34 (wantedS rfl) (run_pick rfl (hF34.ev 37 rfl) (hF34.ev 38 rfl) rfl) rfl (by decide) fun a35 hF35 => ?_
    refine sq (v := (.bool true)) hF35 (wantedS rfl) (run_as rfl (hF35.ev 39 rfl)) rfl (by decide) fun a36 hF36 => ?_
    refine sqEnd ?_
    clear hF24 hF25 hF26 hF27 hF28 hF29 hF30 hF31 hF32 hF33 hF34 hF35 hM2
    refine nx ?_
    refine wp_ret ?_
    exact ret1 hF36 rfl rfl ⟨rfl, hM3.below⟩
set_option maxRecDepth 100000 in
set_option maxHeartbeats 1000000 in
theorem lawZJoins_any (a b : List UInt8) (w : World) (_hm : a.length ≤ maxLen) (_hm2 : b.length ≤ maxLen) : Calls Try.prog 6 #[.string ⟨a.toArray⟩, .string ⟨b.toArray⟩] w fun e w' => e = .returned (.bool true) ∧ Below w.heap.size w w' := by
  by_cases h : 1000 < a.length
  · skip
    refine walk_enter Try.func6 rfl rfl rfl fun a0 hF0 => ?_
    have hM0 := Mem.new w
    refine wp_seq ?_
    refine wp_region_lit ?_
    refine sq (v := (.bool false)) hF0 (wantedS rfl) (run_as rfl rfl) rfl (by decide) fun a1 hF1 => ?_
    refine sqEnd ?_
    clear hF0
    refine nx ?_
    refine wp_seq ?_
    refine wp_seq ?_
    refine wp_region_lit ?_
    refine sq (v := (.string ⟨a.toArray⟩)) hF1 (wantedS rfl) (run_mv rfl (hF1.ev 0 rfl)) rfl (by decide) fun a2 hF2 => ?_
    refine sq (v := (.int .i64 (a.length : Int))) hF2 (wantedS rfl) (run_len rfl (hF2.ev 7 rfl) rfl Try.underlying9) rfl (by decide) fun a3 hF3 => ?_
    refine sq (v := (.bool true)) hF3 (wantedS rfl) (run_gtr rfl (hF3.ev 8 rfl) rfl (decide_eq_true (by omega))) rfl (by decide) fun a4 hF4 => ?_
    refine sq (v := (.bool true)) hF4 (wantedS rfl) (run_mv rfl (hF4.ev 9 rfl)) rfl (by decide) fun a5 hF5 => ?_
    refine sqSkip hF5 (unwantedG hF5 rfl rfl rfl rfl rfl) rfl (by decide) fun a6 hF6 => ?_
    refine sqSkip hF6 (unwantedG hF6 rfl rfl rfl rfl rfl) rfl (by decide) fun a7 hF7 => ?_
    refine sqSkip hF7 (unwantedG hF7 rfl rfl rfl rfl rfl) rfl (by decide) fun a8 hF8 => ?_
    refine sq (v := (.bool true)) hF8 (wantedS rfl) (run_pick rfl (hF8.ev 10 rfl) rfl (hF8.ev 13 rfl)) rfl (by decide) fun a9 hF9 => ?_
    refine sqEnd ?_
    clear hF1 hF2 hF3 hF4 hF5 hF6 hF7 hF8
    refine nx ?_
    refine wp_cond_true (hF9.ev 14 rfl) ?_
    refine wp_seq ?_
    refine wp_region_lit ?_
    refine sqC (v := (.bool true)) hF9 hM0 (wantedS rfl) (run_call rfl Try.func9 (by kernel_rfl) rfl (mapE0 )) rfl (by decide) (zawake_any w) fun a10 w1 hb1 hF10 hM1 => ?_
    refine sq (v := (.bool true)) hF10 (wantedS rfl) (run_as rfl (hF10.ev 15 rfl)) rfl (by decide) fun a11 hF11 => ?_
    refine sqEnd ?_
    clear hF9 hF10 hM0
    refine nx ?_
    refine wp_ret ?_
    refine nxRet ?_
    exact ret1 hF11 rfl rfl ⟨rfl, hM1.below⟩
  by_cases h2 : 1000 < b.length
  · skip
    refine walk_enter Try.func6 rfl rfl rfl fun a0 hF0 => ?_
    have hM0 := Mem.new w
    refine wp_seq ?_
    refine wp_region_lit ?_
    refine sq (v := (.bool false)) hF0 (wantedS rfl) (run_as rfl rfl) rfl (by decide) fun a1 hF1 => ?_
    refine sqEnd ?_
    clear hF0
    refine nx ?_
    refine wp_seq ?_
    refine wp_seq ?_
    refine wp_region_lit ?_
    refine sq (v := (.string ⟨a.toArray⟩)) hF1 (wantedS rfl) (run_mv rfl (hF1.ev 0 rfl)) rfl (by decide) fun a2 hF2 => ?_
    refine sq (v := (.int .i64 (a.length : Int))) hF2 (wantedS rfl) (run_len rfl (hF2.ev 7 rfl) rfl Try.underlying9) rfl (by decide) fun a3 hF3 => ?_
    refine sq (v := (.bool false)) hF3 (wantedS rfl) (run_gtr rfl (hF3.ev 8 rfl) rfl (decide_eq_false (by omega))) rfl (by decide) fun a4 hF4 => ?_
    refine sq (v := (.bool false)) hF4 (wantedS rfl) (run_mv rfl (hF4.ev 9 rfl)) rfl (by decide) fun a5 hF5 => ?_
    refine sq (v := (.string ⟨b.toArray⟩)) hF5 (wantedG hF5 rfl rfl rfl rfl rfl) (run_mv rfl (hF5.ev 1 rfl)) rfl (by decide) fun a6 hF6 => ?_
    refine sq (v := (.int .i64 (b.length : Int))) hF6 (wantedG hF6 rfl rfl rfl rfl rfl) (run_len rfl (hF6.ev 11 rfl) rfl Try.underlying9) rfl (by decide) fun a7 hF7 => ?_
    refine sq (v := (.bool true)) hF7 (wantedG hF7 rfl rfl rfl rfl rfl) (run_gtr rfl (hF7.ev 12 rfl) rfl (decide_eq_true (by omega))) rfl (by decide) fun a8 hF8 => ?_
    refine sq (v := (.bool true)) hF8 (wantedS rfl) (run_pick rfl (hF8.ev 10 rfl) rfl (hF8.ev 13 rfl)) rfl (by decide) fun a9 hF9 => ?_
    refine sqEnd ?_
    clear hF1 hF2 hF3 hF4 hF5 hF6 hF7 hF8
    refine nx ?_
    refine wp_cond_true (hF9.ev 14 rfl) ?_
    refine wp_seq ?_
    refine wp_region_lit ?_
    refine sqC (v := (.bool true)) hF9 hM0 (wantedS rfl) (run_call rfl Try.func9 (by kernel_rfl) rfl (mapE0 )) rfl (by decide) (zawake_any w) fun a10 w1 hb1 hF10 hM1 => ?_
    refine sq (v := (.bool true)) hF10 (wantedS rfl) (run_as rfl (hF10.ev 15 rfl)) rfl (by decide) fun a11 hF11 => ?_
    refine sqEnd ?_
    clear hF9 hF10 hM0
    refine nx ?_
    refine wp_ret ?_
    refine nxRet ?_
    exact ret1 hF11 rfl rfl ⟨rfl, hM1.below⟩
  · have hpk := pack_len a
    have hpk2 := pack_len b
    refine walk_enter Try.func6 rfl rfl rfl fun a0 hF0 => ?_
    have hM0 := Mem.new w
    refine wp_seq ?_
    refine wp_region_lit ?_
    refine sq (v := (.bool false)) hF0 (wantedS rfl) (run_as rfl rfl) rfl (by decide) fun a1 hF1 => ?_
    refine sqEnd ?_
    clear hF0
    refine nx ?_
    refine wp_seq ?_
    refine wp_seq ?_
    refine wp_region_lit ?_
    refine sq (v := (.string ⟨a.toArray⟩)) hF1 (wantedS rfl) (run_mv rfl (hF1.ev 0 rfl)) rfl (by decide) fun a2 hF2 => ?_
    refine sq (v := (.int .i64 (a.length : Int))) hF2 (wantedS rfl) (run_len rfl (hF2.ev 7 rfl) rfl Try.underlying9) rfl (by decide) fun a3 hF3 => ?_
    refine sq (v := (.bool false)) hF3 (wantedS rfl) (run_gtr rfl (hF3.ev 8 rfl) rfl (decide_eq_false (by omega))) rfl (by decide) fun a4 hF4 => ?_
    refine sq (v := (.bool false)) hF4 (wantedS rfl) (run_mv rfl (hF4.ev 9 rfl)) rfl (by decide) fun a5 hF5 => ?_
    refine sq (v := (.string ⟨b.toArray⟩)) hF5 (wantedG hF5 rfl rfl rfl rfl rfl) (run_mv rfl (hF5.ev 1 rfl)) rfl (by decide) fun a6 hF6 => ?_
    refine sq (v := (.int .i64 (b.length : Int))) hF6 (wantedG hF6 rfl rfl rfl rfl rfl) (run_len rfl (hF6.ev 11 rfl) rfl Try.underlying9) rfl (by decide) fun a7 hF7 => ?_
    refine sq (v := (.bool false)) hF7 (wantedG hF7 rfl rfl rfl rfl rfl) (run_gtr rfl (hF7.ev 12 rfl) rfl (decide_eq_false (by omega))) rfl (by decide) fun a8 hF8 => ?_
    refine sq (v := (.bool false)) hF8 (wantedS rfl) (run_pick rfl (hF8.ev 10 rfl) rfl (hF8.ev 13 rfl)) rfl (by decide) fun a9 hF9 => ?_
    refine sqEnd ?_
    clear hF1 hF2 hF3 hF4 hF5 hF6 hF7 hF8
    refine nx ?_
    refine wp_cond_false (hF9.ev 14 rfl) ?_
    refine wp_skip ?_
    refine nx ?_
    refine wp_seq ?_
    refine wp_region_lit ?_
    refine sq (v := (.string ⟨a.toArray⟩)) hF9 (wantedS rfl) (run_mv rfl (hF9.ev 0 rfl)) rfl (by decide) fun a10 hF10 => ?_
    refine sqC (v := (.string ⟨(packS a).toArray⟩)) hF10 hM0 (wantedS rfl) (run_call rfl Try.func10 (by kernel_rfl) rfl (mapE1 (hF10.ev 17 rfl))) rfl (by decide) (zpack_any a w (by omega)) fun a11 w1 hb1 hF11 hM1 => ?_
    refine sq (v := (.string ⟨b.toArray⟩)) hF11 (wantedS rfl) (run_mv rfl (hF11.ev 1 rfl)) rfl (by decide) fun a12 hF12 => ?_
    refine sqC (v := (.string ⟨(packS b).toArray⟩)) hF12 hM1 (wantedS rfl) (run_call rfl Try.func10 (by kernel_rfl) rfl (mapE1 (hF12.ev 19 rfl))) rfl (by decide) (zpack_any b w1 (by omega)) fun a13 w2 hb2 hF13 hM2 => ?_
    refine sq (v := (.string ⟨(packS a ++ (packS b)).toArray⟩)) hF13 (wantedS rfl) (run_cat rfl (hF13.ev 18 rfl) (hF13.ev 20 rfl) (by first | omega | decide | (simp; done) | (simp; omega))) rfl (by decide) fun a14 hF14 => ?_
    refine sq (v := (.string ⟨a.toArray⟩)) hF14 (wantedS rfl) (run_mv rfl (hF14.ev 0 rfl)) rfl (by decide) fun a15 hF15 => ?_
    refine sq (v := (.int .i64 (a.length : Int))) hF15 (wantedS rfl) (run_len rfl (hF15.ev 22 rfl) rfl Try.underlying9) rfl (by decide) fun a16 hF16 => ?_
    refine sq (v := (.string ⟨b.toArray⟩)) hF16 (wantedS rfl) (run_mv rfl (hF16.ev 1 rfl)) rfl (by decide) fun a17 hF17 => ?_
    refine sq (v := (.int .i64 (b.length : Int))) hF17 (wantedS rfl) (run_len rfl (hF17.ev 24 rfl) rfl Try.underlying9) rfl (by decide) fun a18 hF18 => ?_
    refine sq (v := (.int .i64 ((a.length : Int) + (b.length : Int)))) hF18 (wantedS rfl) (run_add (r := (a.length : Int) + (b.length : Int)) rfl (hF18.ev 23 rfl) (hF18.ev 25 rfl) (by rw [IntKind.wrap_i64]; omega)) rfl (by decide) fun a19 hF19 => ?_
    refine sqC (v := (.tuple #[(.string ⟨(a ++ b).toArray⟩), (.int .i64 0)])) hF19 hM2 (wantedS rfl) (run_call rfl Try.func12 (by kernel_rfl) rfl (mapE2 (hF19.ev 21 rfl) (hF19.ev 26 rfl))) rfl (by decide) ((by have h := zunp_any (packS a ++ packS b) ((a.length : Int) + (b.length : Int)) w2 (by rw [List.length_append]; omega) (by omega) (by omega); rw [unpS_join a b] at h; exact h)) fun a20 w3 hb3 hF20 hM3 => ?_
    refine sq (v := (.tuple #[(.string ⟨(a ++ b).toArray⟩), (.int .i64 0)])) hF20 (wantedS rfl) (run_mv rfl (hF20.ev 27 rfl)) rfl (by decide) fun a21 hF21 => ?_
    refine sq (v := (.string ⟨(a ++ b).toArray⟩)) hF21 (wantedS rfl) (run_ext rfl (hF21.ev 16 rfl) rfl) rfl (by decide) fun a22 hF22 => ?_
    refine sq (v := (.int .i64 0)) hF22 (wantedS rfl) (run_ext rfl (hF22.ev 16 rfl) rfl) rfl (by decide) fun a23 hF23 => ?_
    refine sq (v := (.string ⟨(a ++ b).toArray⟩)) hF23 (wantedS rfl) (run_as rfl (hF23.ev 28 rfl)) rfl (by decide) fun a24 hF24 => ?_
    refine sq (v := (.int .i64 0)) hF24 (wantedS rfl) (run_as rfl (hF24.ev 29 rfl)) rfl (by decide) fun a25 hF25 => ?_
    refine sqEnd ?_
    clear hF9 hF10 hF11 hF12 hF13 hF14 hF15 hF16 hF17 hF18 hF19 hF20 hF21 hF22 hF23 hF24 hM0 hM1 hM2
    refine nx ?_
    refine wp_seq ?_
    refine wp_region_lit ?_
    refine sq (v := (.string ⟨(a ++ b).toArray⟩)) hF25 (wantedS rfl) (run_mv rfl (hF25.ev 5 rfl)) rfl (by decide) fun a26 hF26 => ?_
    refine sq (v := (.string ⟨a.toArray⟩)) hF26 (wantedS rfl) (run_mv rfl (hF26.ev 0 rfl)) rfl (by decide) fun a27 hF27 => ?_
    refine sq (v := (.string ⟨b.toArray⟩)) hF27 (wantedS rfl) (run_mv rfl (hF27.ev 1 rfl)) rfl (by decide) fun a28 hF28 => ?_
    refine sq (v := (.string ⟨(a ++ b).toArray⟩)) hF28 (wantedS rfl) (run_cat rfl (hF28.ev 31 rfl) (hF28.ev 32 rfl) (by first | omega | decide | (simp; done) | (simp; omega))) rfl (by decide) fun a29 hF29 => ?_
    refine sq (v := (.bool true)) hF29 (wantedS rfl) (run_eqs rfl (hF29.ev 30 rfl) (hF29.ev 33 rfl) (beq_self_eq_true _)) rfl (by decide) fun a30 hF30 => ?_
    refine sq (v := (.bool true)) hF30 (wantedS rfl) (run_mv rfl (hF30.ev 34 rfl)) rfl (by decide) fun a31 hF31 => ?_
    refine sq (v := (.int .i64 0)) hF31 (wantedG hF31 rfl rfl rfl rfl rfl) (run_mv rfl (hF31.ev 6 rfl)) rfl (by decide) fun a32 hF32 => ?_
    refine sq (v := (.bool true)) hF32 (wantedG hF32 rfl rfl rfl rfl rfl) (run_eqi rfl (hF32.ev 36 rfl) rfl (beq_self_eq_true _)) rfl (by decide) fun a33 hF33 => ?_
    refine sq (v := (.bool true)) hF33 (wantedS rfl) (run_pick rfl (hF33.ev 35 rfl) (hF33.ev 37 rfl) rfl) rfl (by decide) fun a34 hF34 => ?_
    refine sq (v := (.bool true)) hF34 (wantedS rfl) (run_mv rfl (hF34.ev 38 rfl)) rfl (by decide) fun a35 hF35 => ?_
    refine sqC (v := (.bool true)) hF35 hM3 (wantedG hF35 rfl rfl rfl rfl rfl) (run_call rfl Try.func9 (by kernel_rfl) rfl (mapE0 )) rfl (by decide) (zawake_any w3) fun a36 w4 hb4 hF36 hM4 => ?_
    refine sq (v := (.bool true)) hF36 (wantedS rfl) (run_pick rfl (hF36.ev 39 rfl) (hF36.ev 40 rfl) rfl) rfl (by decide) fun a37 hF37 => ?_
    refine sq (v := (.bool true)) hF37 (wantedS rfl) (run_as rfl (hF37.ev 41 rfl)) rfl (by decide) fun a38 hF38 => ?_
    refine sqEnd ?_
    clear hF25 hF26 hF27 hF28 hF29 hF30 hF31 hF32 hF33 hF34 hF35 hF36 hF37 hM3
    refine nx ?_
    refine wp_ret ?_
    exact ret1 hF38 rfl rfl ⟨rfl, hM4.below⟩
set_option maxRecDepth 100000 in
set_option maxHeartbeats 1000000 in
theorem lawZCuts_any (a : List UInt8) (k : Nat) (w : World) (_hm : a.length ≤ maxLen) (hk : k < 65536) : Calls Try.prog 7 #[.string ⟨a.toArray⟩, .int .u16 (k : Int)] w fun e w' => e = .returned (.bool true) ∧ Below w.heap.size w w' := by
  by_cases h : 1000 < a.length
  · skip
    refine walk_enter Try.func7 rfl rfl rfl fun a0 hF0 => ?_
    have hM0 := Mem.new w
    refine wp_seq ?_
    refine wp_region_lit ?_
    refine sq (v := (.bool false)) hF0 (wantedS rfl) (run_as rfl rfl) rfl (by decide) fun a1 hF1 => ?_
    refine sqEnd ?_
    clear hF0
    refine nx ?_
    refine wp_seq ?_
    refine wp_seq ?_
    refine wp_region_lit ?_
    refine sq (v := (.string ⟨a.toArray⟩)) hF1 (wantedS rfl) (run_mv rfl (hF1.ev 0 rfl)) rfl (by decide) fun a2 hF2 => ?_
    refine sq (v := (.int .i64 (a.length : Int))) hF2 (wantedS rfl) (run_len rfl (hF2.ev 9 rfl) rfl Try.underlying9) rfl (by decide) fun a3 hF3 => ?_
    refine sq (v := (.bool true)) hF3 (wantedS rfl) (run_gtr rfl (hF3.ev 10 rfl) rfl (decide_eq_true (by omega))) rfl (by decide) fun a4 hF4 => ?_
    refine sqEnd ?_
    clear hF1 hF2 hF3
    refine nx ?_
    refine wp_cond_true (hF4.ev 11 rfl) ?_
    refine wp_seq ?_
    refine wp_region_lit ?_
    refine sqC (v := (.bool true)) hF4 hM0 (wantedS rfl) (run_call rfl Try.func9 (by kernel_rfl) rfl (mapE0 )) rfl (by decide) (zawake_any w) fun a5 w1 hb1 hF5 hM1 => ?_
    refine sq (v := (.bool true)) hF5 (wantedS rfl) (run_as rfl (hF5.ev 12 rfl)) rfl (by decide) fun a6 hF6 => ?_
    refine sqEnd ?_
    clear hF4 hF5 hM0
    refine nx ?_
    refine wp_ret ?_
    refine nxRet ?_
    exact ret1 hF6 rfl rfl ⟨rfl, hM1.below⟩
  have hpk := pack_len a
  obtain ⟨n, hn⟩ : ∃ n, n = k % ((packS a).length + 1) := ⟨_, rfl⟩
  have hnl : n < (packS a).length + 1 := by rw [hn]; exact Nat.mod_lt _ (by omega)
  have hni : (k : Int) % (((packS a).length : Int) + 1) = (n : Int) := by rw [hn]; simp
  rcases unpS_cut a n with hc | ⟨j, hc⟩
  · skip
    refine walk_enter Try.func7 rfl rfl rfl fun a0 hF0 => ?_
    have hM0 := Mem.new w
    refine wp_seq ?_
    refine wp_region_lit ?_
    refine sq (v := (.bool false)) hF0 (wantedS rfl) (run_as rfl rfl) rfl (by decide) fun a1 hF1 => ?_
    refine sqEnd ?_
    clear hF0
    refine nx ?_
    refine wp_seq ?_
    refine wp_seq ?_
    refine wp_region_lit ?_
    refine sq (v := (.string ⟨a.toArray⟩)) hF1 (wantedS rfl) (run_mv rfl (hF1.ev 0 rfl)) rfl (by decide) fun a2 hF2 => ?_
    refine sq (v := (.int .i64 (a.length : Int))) hF2 (wantedS rfl) (run_len rfl (hF2.ev 9 rfl) rfl Try.underlying9) rfl (by decide) fun a3 hF3 => ?_
    refine sq (v := (.bool false)) hF3 (wantedS rfl) (run_gtr rfl (hF3.ev 10 rfl) rfl (decide_eq_false (by omega))) rfl (by decide) fun a4 hF4 => ?_
    refine sqEnd ?_
    clear hF1 hF2 hF3
    refine nx ?_
    refine wp_cond_false (hF4.ev 11 rfl) ?_
    refine wp_skip ?_
    refine nx ?_
    refine wp_seq ?_
    refine wp_region_lit ?_
    refine sq (v := (.string ⟨a.toArray⟩)) hF4 (wantedS rfl) (run_mv rfl (hF4.ev 0 rfl)) rfl (by decide) fun a5 hF5 => ?_
    refine sqC (v := (.string ⟨(packS a).toArray⟩)) hF5 hM0 (wantedS rfl) (run_call rfl Try.func10 (by kernel_rfl) rfl (mapE1 (hF5.ev 13 rfl))) rfl (by decide) (zpack_any a w (by omega)) fun a6 w1 hb1 hF6 hM1 => ?_
    refine sq (v := (.string ⟨(packS a).toArray⟩)) hF6 (wantedS rfl) (run_as rfl (hF6.ev 14 rfl)) rfl (by decide) fun a7 hF7 => ?_
    refine sqEnd ?_
    clear hF4 hF5 hF6 hM0
    refine nx ?_
    refine wp_seq ?_
    refine wp_region_lit ?_
    refine sq (v := (.int .u16 (k : Int))) hF7 (wantedS rfl) (run_mv rfl (hF7.ev 1 rfl)) rfl (by decide) fun a8 hF8 => ?_
    refine sq (v := (.int .i64 (k : Int))) hF8 (wantedS rfl) (run_cvI (r := (k : Int)) rfl (hF8.ev 15 rfl) Try.underlying30 Try.underlying3 (by rw [IntKind.wrap_i64]; omega)) rfl (by decide) fun a9 hF9 => ?_
    refine sq (v := (.string ⟨(packS a).toArray⟩)) hF9 (wantedS rfl) (run_mv rfl (hF9.ev 5 rfl)) rfl (by decide) fun a10 hF10 => ?_
    refine sq (v := (.int .i64 ((packS a).length : Int))) hF10 (wantedS rfl) (run_len rfl (hF10.ev 17 rfl) rfl Try.underlying9) rfl (by decide) fun a11 hF11 => ?_
    refine sq (v := (.int .i64 (((packS a).length : Int) + 1))) hF11 (wantedS rfl) (run_add (r := ((packS a).length : Int) + 1) rfl (hF11.ev 18 rfl) rfl (by rw [IntKind.wrap_i64]; omega)) rfl (by decide) fun a12 hF12 => ?_
    refine sq (v := (.int .i64 (n : Int))) hF12 (wantedS rfl) (run_rem (r := (n : Int)) rfl (hF12.ev 16 rfl) (hF12.ev 19 rfl) (by omega) (by rw [Int.tmod_eq_emod_of_nonneg (by omega)]; omega)) rfl (by decide) fun a13 hF13 => ?_
    refine sq (v := (.int .i64 (n : Int))) hF13 (wantedS rfl) (run_as rfl (hF13.ev 20 rfl)) rfl (by decide) fun a14 hF14 => ?_
    refine sqEnd ?_
    clear hF7 hF8 hF9 hF10 hF11 hF12 hF13
    refine nx ?_
    refine wp_seq ?_
    refine wp_region_lit ?_
    refine sq (v := (.string ⟨(packS a).toArray⟩)) hF14 (wantedS rfl) (run_mv rfl (hF14.ev 5 rfl)) rfl (by decide) fun a15 hF15 => ?_
    refine sq (v := (.int .i64 (n : Int))) hF15 (wantedS rfl) (run_mv rfl (hF15.ev 6 rfl)) rfl (by decide) fun a16 hF16 => ?_
    refine sq (v := (.string ⟨((packS a).take n).toArray⟩)) hF16 (wantedS rfl) (run_sTo (n := n) rfl (hF16.ev 22 rfl) (hF16.ev 23 rfl) Try.underlying9 (by omega) (by omega)) rfl (by decide) fun a17 hF17 => ?_
    refine sq (v := (.string ⟨a.toArray⟩)) hF17 (wantedS rfl) (run_mv rfl (hF17.ev 0 rfl)) rfl (by decide) fun a18 hF18 => ?_
    refine sq (v := (.int .i64 (a.length : Int))) hF18 (wantedS rfl) (run_len rfl (hF18.ev 25 rfl) rfl Try.underlying9) rfl (by decide) fun a19 hF19 => ?_
    refine sqC (v := (.tuple #[(.string ⟨List.toArray []⟩), (.int .i64 4)])) hF19 hM1 (wantedS rfl) (run_call rfl Try.func12 (by kernel_rfl) rfl (mapE2 (hF19.ev 24 rfl) (hF19.ev 26 rfl))) rfl (by decide) ((by have h := zunp_any ((packS a).take n) (a.length : Int) w1 (by rw [List.length_take]; omega) (by omega) (by omega); rw [hc] at h; exact h)) fun a20 w2 hb2 hF20 hM2 => ?_
    refine sq (v := (.tuple #[(.string ⟨List.toArray []⟩), (.int .i64 4)])) hF20 (wantedS rfl) (run_mv rfl (hF20.ev 27 rfl)) rfl (by decide) fun a21 hF21 => ?_
    refine sq (v := (.string ⟨List.toArray []⟩)) hF21 (wantedS rfl) (run_ext rfl (hF21.ev 21 rfl) rfl) rfl (by decide) fun a22 hF22 => ?_
    refine sq (v := (.int .i64 4)) hF22 (wantedS rfl) (run_ext rfl (hF22.ev 21 rfl) rfl) rfl (by decide) fun a23 hF23 => ?_
    refine sq (v := (.string ⟨List.toArray []⟩)) hF23 (wantedS rfl) (run_as rfl (hF23.ev 28 rfl)) rfl (by decide) fun a24 hF24 => ?_
    refine sq (v := (.int .i64 4)) hF24 (wantedS rfl) (run_as rfl (hF24.ev 29 rfl)) rfl (by decide) fun a25 hF25 => ?_
    refine sqEnd ?_
    clear hF14 hF15 hF16 hF17 hF18 hF19 hF20 hF21 hF22 hF23 hF24 hM1
    refine nx ?_
    refine wp_seq ?_
    refine wp_seq ?_
    refine wp_region_lit ?_
    refine sq (v := (.int .i64 4)) hF25 (wantedS rfl) (run_mv rfl (hF25.ev 8 rfl)) rfl (by decide) fun a26 hF26 => ?_
    refine sq (v := (.bool true)) hF26 (wantedS rfl) (run_nei rfl (hF26.ev 30 rfl) rfl (bne_iff_ne.2 (by omega))) rfl (by decide) fun a27 hF27 => ?_
    refine sqEnd ?_
    clear hF25 hF26
    refine nx ?_
    refine wp_cond_true (hF27.ev 31 rfl) ?_
    refine wp_seq ?_
    refine wp_region_lit ?_
    refine sq (v := (.int .i64 4)) hF27 (wantedS rfl) (run_mv rfl (hF27.ev 8 rfl)) rfl (by decide) fun a28 hF28 => ?_
    refine sq (v := (.bool true)) hF28 (wantedS rfl) (run_eqi rfl (hF28.ev 32 rfl) rfl (beq_self_eq_true _)) rfl (by decide) fun a29 hF29 => ?_
    refine sq (v := (.bool true)) hF29 (wantedS rfl) (run_mv rfl (hF29.ev 33 rfl)) rfl (by decide) fun a30 hF30 => ?_
    refine sq (v := (.string ⟨List.toArray []⟩)) hF30 (wantedG hF30 rfl rfl rfl rfl rfl) (run_mv rfl (hF30.ev 7 rfl)) rfl (by decide) fun a31 hF31 => ?_
    refine sq (v := (.bool true)) hF31 (wantedG hF31 rfl rfl rfl rfl rfl) (run_eqs rfl (hF31.ev 35 rfl) rfl (beq_self_eq_true _)) rfl (by decide) fun a32 hF32 => ?_
    refine sq (v := (.bool true)) hF32 (wantedS rfl) (run_pick rfl (hF32.ev 34 rfl) (hF32.ev 36 rfl) rfl) rfl (by decide) fun a33 hF33 => ?_
    refine sq (v := (.bool true)) hF33 (wantedS rfl) (run_mv rfl (hF33.ev 37 rfl)) rfl (by decide) fun a34 hF34 => ?_
    refine sqC (v := (.bool true)) hF34 hM2 (wantedG hF34 rfl rfl rfl rfl rfl) (run_call rfl Try.func9 (by kernel_rfl) rfl (mapE0 )) rfl (by decide) (zawake_any w2) fun a35 w3 hb3 hF35 hM3 => ?_
    refine sq (v := (.bool true)) hF35 (wantedS rfl) (run_pick rfl (hF35.ev 38 rfl) (hF35.ev 39 rfl) rfl) rfl (by decide) fun a36 hF36 => ?_
    refine sq (v := (.bool true)) hF36 (wantedS rfl) (run_as rfl (hF36.ev 40 rfl)) rfl (by decide) fun a37 hF37 => ?_
    refine sqEnd ?_
    clear hF27 hF28 hF29 hF30 hF31 hF32 hF33 hF34 hF35 hF36 hM2
    refine nx ?_
    refine wp_ret ?_
    refine nxRet ?_
    exact ret1 hF37 rfl rfl ⟨rfl, hM3.below⟩
  · obtain ⟨x, hx⟩ : ∃ x, a.take j = x := ⟨_, rfl⟩
    rw [hx] at hc
    have hxl : x.length ≤ a.length := by rw [← hx, List.length_take]; omega
    have hxt : a.take x.length = x := by rw [← hx, List.length_take, List.take_eq_take_iff]; omega
    by_cases hlt : n < (packS a).length
    · skip
      refine walk_enter Try.func7 rfl rfl rfl fun a0 hF0 => ?_
      have hM0 := Mem.new w
      refine wp_seq ?_
      refine wp_region_lit ?_
      refine sq (v := (.bool false)) hF0 (wantedS rfl) (run_as rfl rfl) rfl (by decide) fun a1 hF1 => ?_
      refine sqEnd ?_
      clear hF0
      refine nx ?_
      refine wp_seq ?_
      refine wp_seq ?_
      refine wp_region_lit ?_
      refine sq (v := (.string ⟨a.toArray⟩)) hF1 (wantedS rfl) (run_mv rfl (hF1.ev 0 rfl)) rfl (by decide) fun a2 hF2 => ?_
      refine sq (v := (.int .i64 (a.length : Int))) hF2 (wantedS rfl) (run_len rfl (hF2.ev 9 rfl) rfl Try.underlying9) rfl (by decide) fun a3 hF3 => ?_
      refine sq (v := (.bool false)) hF3 (wantedS rfl) (run_gtr rfl (hF3.ev 10 rfl) rfl (decide_eq_false (by omega))) rfl (by decide) fun a4 hF4 => ?_
      refine sqEnd ?_
      clear hF1 hF2 hF3
      refine nx ?_
      refine wp_cond_false (hF4.ev 11 rfl) ?_
      refine wp_skip ?_
      refine nx ?_
      refine wp_seq ?_
      refine wp_region_lit ?_
      refine sq (v := (.string ⟨a.toArray⟩)) hF4 (wantedS rfl) (run_mv rfl (hF4.ev 0 rfl)) rfl (by decide) fun a5 hF5 => ?_
      refine sqC (v := (.string ⟨(packS a).toArray⟩)) hF5 hM0 (wantedS rfl) (run_call rfl Try.func10 (by kernel_rfl) rfl (mapE1 (hF5.ev 13 rfl))) rfl (by decide) (zpack_any a w (by omega)) fun a6 w1 hb1 hF6 hM1 => ?_
      refine sq (v := (.string ⟨(packS a).toArray⟩)) hF6 (wantedS rfl) (run_as rfl (hF6.ev 14 rfl)) rfl (by decide) fun a7 hF7 => ?_
      refine sqEnd ?_
      clear hF4 hF5 hF6 hM0
      refine nx ?_
      refine wp_seq ?_
      refine wp_region_lit ?_
      refine sq (v := (.int .u16 (k : Int))) hF7 (wantedS rfl) (run_mv rfl (hF7.ev 1 rfl)) rfl (by decide) fun a8 hF8 => ?_
      refine sq (v := (.int .i64 (k : Int))) hF8 (wantedS rfl) (run_cvI (r := (k : Int)) rfl (hF8.ev 15 rfl) Try.underlying30 Try.underlying3 (by rw [IntKind.wrap_i64]; omega)) rfl (by decide) fun a9 hF9 => ?_
      refine sq (v := (.string ⟨(packS a).toArray⟩)) hF9 (wantedS rfl) (run_mv rfl (hF9.ev 5 rfl)) rfl (by decide) fun a10 hF10 => ?_
      refine sq (v := (.int .i64 ((packS a).length : Int))) hF10 (wantedS rfl) (run_len rfl (hF10.ev 17 rfl) rfl Try.underlying9) rfl (by decide) fun a11 hF11 => ?_
      refine sq (v := (.int .i64 (((packS a).length : Int) + 1))) hF11 (wantedS rfl) (run_add (r := ((packS a).length : Int) + 1) rfl (hF11.ev 18 rfl) rfl (by rw [IntKind.wrap_i64]; omega)) rfl (by decide) fun a12 hF12 => ?_
      refine sq (v := (.int .i64 (n : Int))) hF12 (wantedS rfl) (run_rem (r := (n : Int)) rfl (hF12.ev 16 rfl) (hF12.ev 19 rfl) (by omega) (by rw [Int.tmod_eq_emod_of_nonneg (by omega)]; omega)) rfl (by decide) fun a13 hF13 => ?_
      refine sq (v := (.int .i64 (n : Int))) hF13 (wantedS rfl) (run_as rfl (hF13.ev 20 rfl)) rfl (by decide) fun a14 hF14 => ?_
      refine sqEnd ?_
      clear hF7 hF8 hF9 hF10 hF11 hF12 hF13
      refine nx ?_
      refine wp_seq ?_
      refine wp_region_lit ?_
      refine sq (v := (.string ⟨(packS a).toArray⟩)) hF14 (wantedS rfl) (run_mv rfl (hF14.ev 5 rfl)) rfl (by decide) fun a15 hF15 => ?_
      refine sq (v := (.int .i64 (n : Int))) hF15 (wantedS rfl) (run_mv rfl (hF15.ev 6 rfl)) rfl (by decide) fun a16 hF16 => ?_
      refine sq (v := (.string ⟨((packS a).take n).toArray⟩)) hF16 (wantedS rfl) (run_sTo (n := n) rfl (hF16.ev 22 rfl) (hF16.ev 23 rfl) Try.underlying9 (by omega) (by omega)) rfl (by decide) fun a17 hF17 => ?_
      refine sq (v := (.string ⟨a.toArray⟩)) hF17 (wantedS rfl) (run_mv rfl (hF17.ev 0 rfl)) rfl (by decide) fun a18 hF18 => ?_
      refine sq (v := (.int .i64 (a.length : Int))) hF18 (wantedS rfl) (run_len rfl (hF18.ev 25 rfl) rfl Try.underlying9) rfl (by decide) fun a19 hF19 => ?_
      refine sqC (v := (.tuple #[(.string ⟨x.toArray⟩), (.int .i64 0)])) hF19 hM1 (wantedS rfl) (run_call rfl Try.func12 (by kernel_rfl) rfl (mapE2 (hF19.ev 24 rfl) (hF19.ev 26 rfl))) rfl (by decide) ((by have h := zunp_any ((packS a).take n) (a.length : Int) w1 (by rw [List.length_take]; omega) (by omega) (by omega); rw [hc] at h; exact h)) fun a20 w2 hb2 hF20 hM2 => ?_
      refine sq (v := (.tuple #[(.string ⟨x.toArray⟩), (.int .i64 0)])) hF20 (wantedS rfl) (run_mv rfl (hF20.ev 27 rfl)) rfl (by decide) fun a21 hF21 => ?_
      refine sq (v := (.string ⟨x.toArray⟩)) hF21 (wantedS rfl) (run_ext rfl (hF21.ev 21 rfl) rfl) rfl (by decide) fun a22 hF22 => ?_
      refine sq (v := (.int .i64 0)) hF22 (wantedS rfl) (run_ext rfl (hF22.ev 21 rfl) rfl) rfl (by decide) fun a23 hF23 => ?_
      refine sq (v := (.string ⟨x.toArray⟩)) hF23 (wantedS rfl) (run_as rfl (hF23.ev 28 rfl)) rfl (by decide) fun a24 hF24 => ?_
      refine sq (v := (.int .i64 0)) hF24 (wantedS rfl) (run_as rfl (hF24.ev 29 rfl)) rfl (by decide) fun a25 hF25 => ?_
      refine sqEnd ?_
      clear hF14 hF15 hF16 hF17 hF18 hF19 hF20 hF21 hF22 hF23 hF24 hM1
      refine nx ?_
      refine wp_seq ?_
      refine wp_seq ?_
      refine wp_region_lit ?_
      refine sq (v := (.int .i64 0)) hF25 (wantedS rfl) (run_mv rfl (hF25.ev 8 rfl)) rfl (by decide) fun a26 hF26 => ?_
      refine sq (v := (.bool false)) hF26 (wantedS rfl) (run_nei rfl (hF26.ev 30 rfl) rfl (bne_eq_false_iff_eq.2 (by omega))) rfl (by decide) fun a27 hF27 => ?_
      refine sqEnd ?_
      clear hF25 hF26
      refine nx ?_
      refine wp_cond_false (hF27.ev 31 rfl) ?_
      refine wp_skip ?_
      refine nx ?_
      refine wp_seq ?_
      refine wp_region_lit ?_
      refine sq (v := (.string ⟨x.toArray⟩)) hF27 (wantedS rfl) (run_mv rfl (hF27.ev 7 rfl)) rfl (by decide) fun a28 hF28 => ?_
      refine sq (v := (.int .i64 (x.length : Int))) hF28 (wantedS rfl) (run_len rfl (hF28.ev 41 rfl) rfl Try.underlying9) rfl (by decide) fun a29 hF29 => ?_
      refine sq (v := (.string ⟨a.toArray⟩)) hF29 (wantedS rfl) (run_mv rfl (hF29.ev 0 rfl)) rfl (by decide) fun a30 hF30 => ?_
      refine sq (v := (.int .i64 (a.length : Int))) hF30 (wantedS rfl) (run_len rfl (hF30.ev 43 rfl) rfl Try.underlying9) rfl (by decide) fun a31 hF31 => ?_
      refine sq (v := (.bool true)) hF31 (wantedS rfl) (run_leq rfl (hF31.ev 42 rfl) (hF31.ev 44 rfl) (decide_eq_true (by omega))) rfl (by decide) fun a32 hF32 => ?_
      refine sq (v := (.bool true)) hF32 (wantedS rfl) (run_mv rfl (hF32.ev 45 rfl)) rfl (by decide) fun a33 hF33 => ?_
      refine sq (v := (.string ⟨a.toArray⟩)) hF33 (wantedG hF33 rfl rfl rfl rfl rfl) (run_mv rfl (hF33.ev 0 rfl)) rfl (by decide) fun a34 hF34 => ?_
      refine sq (v := (.string ⟨x.toArray⟩)) hF34 (wantedG hF34 rfl rfl rfl rfl rfl) (run_mv rfl (hF34.ev 7 rfl)) rfl (by decide) fun a35 hF35 => ?_
      refine sq (v := (.int .i64 (x.length : Int))) hF35 (wantedG hF35 rfl rfl rfl rfl rfl) (run_len rfl (hF35.ev 48 rfl) rfl Try.underlying9) rfl (by decide) fun a36 hF36 => ?_
      refine sq (v := (.string ⟨x.toArray⟩)) hF36 (wantedG hF36 rfl rfl rfl rfl rfl) (run_sToE (m := x.length) hxt rfl (hF36.ev 47 rfl) (hF36.ev 49 rfl) Try.underlying9 (by omega) (by omega)) rfl (by decide) fun a37 hF37 => ?_
      refine sq (v := (.string ⟨x.toArray⟩)) hF37 (wantedG hF37 rfl rfl rfl rfl rfl) (run_mv rfl (hF37.ev 7 rfl)) rfl (by decide) fun a38 hF38 => ?_
      refine sq (v := (.bool true)) hF38 (wantedG hF38 rfl rfl rfl rfl rfl) (run_eqs rfl (hF38.ev 50 rfl) (hF38.ev 51 rfl) (beq_self_eq_true _)) rfl (by decide) fun a39 hF39 => ?_
      refine sq (v := (.bool true)) hF39 (wantedS rfl) (run_pick rfl (hF39.ev 46 rfl) (hF39.ev 52 rfl) rfl) rfl (by decide) fun a40 hF40 => ?_
      refine sq (v := (.bool true)) hF40 (wantedS rfl) (run_mv rfl (hF40.ev 53 rfl)) rfl (by decide) fun a41 hF41 => ?_
      refine sq (v := (.int .i64 (n : Int))) hF41 (wantedG hF41 rfl rfl rfl rfl rfl) (run_mv rfl (hF41.ev 6 rfl)) rfl (by decide) fun a42 hF42 => ?_
      refine sq (v := (.string ⟨(packS a).toArray⟩)) hF42 (wantedG hF42 rfl rfl rfl rfl rfl) (run_mv rfl (hF42.ev 5 rfl)) rfl (by decide) fun a43 hF43 => ?_
      refine sq (v := (.int .i64 ((packS a).length : Int))) hF43 (wantedG hF43 rfl rfl rfl rfl rfl) (run_len rfl (hF43.ev 56 rfl) rfl Try.underlying9) rfl (by decide) fun a44 hF44 => ?_
      refine sq (v := (.bool true)) hF44 (wantedG hF44 rfl rfl rfl rfl rfl) (run_lss rfl (hF44.ev 55 rfl) (hF44.ev 57 rfl) (decide_eq_true (by omega))) rfl (by decide) fun a45 hF45 => ?_
      refine sq (v := (.bool true)) hF45 (wantedG hF45 rfl rfl rfl rfl rfl) (run_mv rfl (hF45.ev 58 rfl)) rfl (by decide) fun a46 hF46 => ?_
      refine sqSkip hF46 (unwantedG hF46 rfl rfl rfl rfl rfl) rfl (by decide) fun a47 hF47 => ?_
      refine sqSkip hF47 (unwantedG hF47 rfl rfl rfl rfl rfl) rfl (by decide) fun a48 hF48 => ?_
      refine sqSkip hF48 (unwantedG hF48 rfl rfl rfl rfl rfl) rfl (by decide) fun a49 hF49 => ?_
      refine sq (v := (.bool true)) hF49 (wantedG hF49 rfl rfl rfl rfl rfl) (run_pick rfl (hF49.ev 59 rfl) rfl (hF49.ev 62 rfl)) rfl (by decide) fun a50 hF50 => ?_
      refine sq (v := (.bool true)) hF50 (wantedS rfl) (run_pick rfl (hF50.ev 54 rfl) (hF50.ev 63 rfl) rfl) rfl (by decide) fun a51 hF51 => ?_
      refine sq (v := (.bool true)) hF51 (wantedS rfl) (run_mv rfl (hF51.ev 64 rfl)) rfl (by decide) fun a52 hF52 => ?_
      refine sqC (v := (.bool true)) hF52 hM2 (wantedG hF52 rfl rfl rfl rfl rfl) (run_call rfl Try.func9 (by kernel_rfl) rfl (mapE0 )) rfl (by decide) (zawake_any w2) fun a53 w3 hb3 hF53 hM3 => ?_
      refine sq (v := (.bool true)) hF53 (wantedS rfl) (run_pick rfl (hF53.ev 65 rfl) (hF53.ev 66 rfl) rfl) rfl (by decide) fun a54 hF54 => ?_
      refine sq (v := (.bool true)) hF54 (wantedS rfl) (run_as rfl (hF54.ev 67 rfl)) rfl (by decide) fun a55 hF55 => ?_
      refine sqEnd ?_
      clear hF27 hF28 hF29 hF30 hF31 hF32 hF33 hF34 hF35 hF36 hF37 hF38 hF39 hF40 hF41 hF42 hF43 hF44 hF45 hF46 hF47 hF48 hF49 hF50 hF51 hF52 hF53 hF54 hM2
      refine nx ?_
      refine wp_ret ?_
      exact ret1 hF55 rfl rfl ⟨rfl, hM3.below⟩
    · have hxa : x = a := by
        rw [List.take_of_length_le (by omega), unpS_fit a _ (Int.le_refl _)] at hc
        injection hc with h1 _
        exact h1.symm
      subst hxa
      refine walk_enter Try.func7 rfl rfl rfl fun a0 hF0 => ?_
      have hM0 := Mem.new w
      refine wp_seq ?_
      refine wp_region_lit ?_
      refine sq (v := (.bool false)) hF0 (wantedS rfl) (run_as rfl rfl) rfl (by decide) fun a1 hF1 => ?_
      refine sqEnd ?_
      clear hF0
      refine nx ?_
      refine wp_seq ?_
      refine wp_seq ?_
      refine wp_region_lit ?_
      refine sq (v := (.string ⟨x.toArray⟩)) hF1 (wantedS rfl) (run_mv rfl (hF1.ev 0 rfl)) rfl (by decide) fun a2 hF2 => ?_
      refine sq (v := (.int .i64 (x.length : Int))) hF2 (wantedS rfl) (run_len rfl (hF2.ev 9 rfl) rfl Try.underlying9) rfl (by decide) fun a3 hF3 => ?_
      refine sq (v := (.bool false)) hF3 (wantedS rfl) (run_gtr rfl (hF3.ev 10 rfl) rfl (decide_eq_false (by omega))) rfl (by decide) fun a4 hF4 => ?_
      refine sqEnd ?_
      clear hF1 hF2 hF3
      refine nx ?_
      refine wp_cond_false (hF4.ev 11 rfl) ?_
      refine wp_skip ?_
      refine nx ?_
      refine wp_seq ?_
      refine wp_region_lit ?_
      refine sq (v := (.string ⟨x.toArray⟩)) hF4 (wantedS rfl) (run_mv rfl (hF4.ev 0 rfl)) rfl (by decide) fun a5 hF5 => ?_
      refine sqC (v := (.string ⟨(packS x).toArray⟩)) hF5 hM0 (wantedS rfl) (run_call rfl Try.func10 (by kernel_rfl) rfl (mapE1 (hF5.ev 13 rfl))) rfl (by decide) (zpack_any x w (by omega)) fun a6 w1 hb1 hF6 hM1 => ?_
      refine sq (v := (.string ⟨(packS x).toArray⟩)) hF6 (wantedS rfl) (run_as rfl (hF6.ev 14 rfl)) rfl (by decide) fun a7 hF7 => ?_
      refine sqEnd ?_
      clear hF4 hF5 hF6 hM0
      refine nx ?_
      refine wp_seq ?_
      refine wp_region_lit ?_
      refine sq (v := (.int .u16 (k : Int))) hF7 (wantedS rfl) (run_mv rfl (hF7.ev 1 rfl)) rfl (by decide) fun a8 hF8 => ?_
      refine sq (v := (.int .i64 (k : Int))) hF8 (wantedS rfl) (run_cvI (r := (k : Int)) rfl (hF8.ev 15 rfl) Try.underlying30 Try.underlying3 (by rw [IntKind.wrap_i64]; omega)) rfl (by decide) fun a9 hF9 => ?_
      refine sq (v := (.string ⟨(packS x).toArray⟩)) hF9 (wantedS rfl) (run_mv rfl (hF9.ev 5 rfl)) rfl (by decide) fun a10 hF10 => ?_
      refine sq (v := (.int .i64 ((packS x).length : Int))) hF10 (wantedS rfl) (run_len rfl (hF10.ev 17 rfl) rfl Try.underlying9) rfl (by decide) fun a11 hF11 => ?_
      refine sq (v := (.int .i64 (((packS x).length : Int) + 1))) hF11 (wantedS rfl) (run_add (r := ((packS x).length : Int) + 1) rfl (hF11.ev 18 rfl) rfl (by rw [IntKind.wrap_i64]; omega)) rfl (by decide) fun a12 hF12 => ?_
      refine sq (v := (.int .i64 (n : Int))) hF12 (wantedS rfl) (run_rem (r := (n : Int)) rfl (hF12.ev 16 rfl) (hF12.ev 19 rfl) (by omega) (by rw [Int.tmod_eq_emod_of_nonneg (by omega)]; omega)) rfl (by decide) fun a13 hF13 => ?_
      refine sq (v := (.int .i64 (n : Int))) hF13 (wantedS rfl) (run_as rfl (hF13.ev 20 rfl)) rfl (by decide) fun a14 hF14 => ?_
      refine sqEnd ?_
      clear hF7 hF8 hF9 hF10 hF11 hF12 hF13
      refine nx ?_
      refine wp_seq ?_
      refine wp_region_lit ?_
      refine sq (v := (.string ⟨(packS x).toArray⟩)) hF14 (wantedS rfl) (run_mv rfl (hF14.ev 5 rfl)) rfl (by decide) fun a15 hF15 => ?_
      refine sq (v := (.int .i64 (n : Int))) hF15 (wantedS rfl) (run_mv rfl (hF15.ev 6 rfl)) rfl (by decide) fun a16 hF16 => ?_
      refine sq (v := (.string ⟨((packS x).take n).toArray⟩)) hF16 (wantedS rfl) (run_sTo (n := n) rfl (hF16.ev 22 rfl) (hF16.ev 23 rfl) Try.underlying9 (by omega) (by omega)) rfl (by decide) fun a17 hF17 => ?_
      refine sq (v := (.string ⟨x.toArray⟩)) hF17 (wantedS rfl) (run_mv rfl (hF17.ev 0 rfl)) rfl (by decide) fun a18 hF18 => ?_
      refine sq (v := (.int .i64 (x.length : Int))) hF18 (wantedS rfl) (run_len rfl (hF18.ev 25 rfl) rfl Try.underlying9) rfl (by decide) fun a19 hF19 => ?_
      refine sqC (v := (.tuple #[(.string ⟨x.toArray⟩), (.int .i64 0)])) hF19 hM1 (wantedS rfl) (run_call rfl Try.func12 (by kernel_rfl) rfl (mapE2 (hF19.ev 24 rfl) (hF19.ev 26 rfl))) rfl (by decide) ((by have h := zunp_any ((packS x).take n) (x.length : Int) w1 (by rw [List.length_take]; omega) (by omega) (by omega); rw [hc] at h; exact h)) fun a20 w2 hb2 hF20 hM2 => ?_
      refine sq (v := (.tuple #[(.string ⟨x.toArray⟩), (.int .i64 0)])) hF20 (wantedS rfl) (run_mv rfl (hF20.ev 27 rfl)) rfl (by decide) fun a21 hF21 => ?_
      refine sq (v := (.string ⟨x.toArray⟩)) hF21 (wantedS rfl) (run_ext rfl (hF21.ev 21 rfl) rfl) rfl (by decide) fun a22 hF22 => ?_
      refine sq (v := (.int .i64 0)) hF22 (wantedS rfl) (run_ext rfl (hF22.ev 21 rfl) rfl) rfl (by decide) fun a23 hF23 => ?_
      refine sq (v := (.string ⟨x.toArray⟩)) hF23 (wantedS rfl) (run_as rfl (hF23.ev 28 rfl)) rfl (by decide) fun a24 hF24 => ?_
      refine sq (v := (.int .i64 0)) hF24 (wantedS rfl) (run_as rfl (hF24.ev 29 rfl)) rfl (by decide) fun a25 hF25 => ?_
      refine sqEnd ?_
      clear hF14 hF15 hF16 hF17 hF18 hF19 hF20 hF21 hF22 hF23 hF24 hM1
      refine nx ?_
      refine wp_seq ?_
      refine wp_seq ?_
      refine wp_region_lit ?_
      refine sq (v := (.int .i64 0)) hF25 (wantedS rfl) (run_mv rfl (hF25.ev 8 rfl)) rfl (by decide) fun a26 hF26 => ?_
      refine sq (v := (.bool false)) hF26 (wantedS rfl) (run_nei rfl (hF26.ev 30 rfl) rfl (bne_eq_false_iff_eq.2 (by omega))) rfl (by decide) fun a27 hF27 => ?_
      refine sqEnd ?_
      clear hF25 hF26
      refine nx ?_
      refine wp_cond_false (hF27.ev 31 rfl) ?_
      refine wp_skip ?_
      refine nx ?_
      refine wp_seq ?_
      refine wp_region_lit ?_
      refine sq (v := (.string ⟨x.toArray⟩)) hF27 (wantedS rfl) (run_mv rfl (hF27.ev 7 rfl)) rfl (by decide) fun a28 hF28 => ?_
      refine sq (v := (.int .i64 (x.length : Int))) hF28 (wantedS rfl) (run_len rfl (hF28.ev 41 rfl) rfl Try.underlying9) rfl (by decide) fun a29 hF29 => ?_
      refine sq (v := (.string ⟨x.toArray⟩)) hF29 (wantedS rfl) (run_mv rfl (hF29.ev 0 rfl)) rfl (by decide) fun a30 hF30 => ?_
      refine sq (v := (.int .i64 (x.length : Int))) hF30 (wantedS rfl) (run_len rfl (hF30.ev 43 rfl) rfl Try.underlying9) rfl (by decide) fun a31 hF31 => ?_
      refine sq (v := (.bool true)) hF31 (wantedS rfl) (run_leq rfl (hF31.ev 42 rfl) (hF31.ev 44 rfl) (decide_eq_true (by omega))) rfl (by decide) fun a32 hF32 => ?_
      refine sq (v := (.bool true)) hF32 (wantedS rfl) (run_mv rfl (hF32.ev 45 rfl)) rfl (by decide) fun a33 hF33 => ?_
      refine sq (v := (.string ⟨x.toArray⟩)) hF33 (wantedG hF33 rfl rfl rfl rfl rfl) (run_mv rfl (hF33.ev 0 rfl)) rfl (by decide) fun a34 hF34 => ?_
      refine sq (v := (.string ⟨x.toArray⟩)) hF34 (wantedG hF34 rfl rfl rfl rfl rfl) (run_mv rfl (hF34.ev 7 rfl)) rfl (by decide) fun a35 hF35 => ?_
      refine sq (v := (.int .i64 (x.length : Int))) hF35 (wantedG hF35 rfl rfl rfl rfl rfl) (run_len rfl (hF35.ev 48 rfl) rfl Try.underlying9) rfl (by decide) fun a36 hF36 => ?_
      refine sq (v := (.string ⟨x.toArray⟩)) hF36 (wantedG hF36 rfl rfl rfl rfl rfl) (run_sToE (m := x.length) hxt rfl (hF36.ev 47 rfl) (hF36.ev 49 rfl) Try.underlying9 (by omega) (by omega)) rfl (by decide) fun a37 hF37 => ?_
      refine sq (v := (.string ⟨x.toArray⟩)) hF37 (wantedG hF37 rfl rfl rfl rfl rfl) (run_mv rfl (hF37.ev 7 rfl)) rfl (by decide) fun a38 hF38 => ?_
      refine sq (v := (.bool true)) hF38 (wantedG hF38 rfl rfl rfl rfl rfl) (run_eqs rfl (hF38.ev 50 rfl) (hF38.ev 51 rfl) (beq_self_eq_true _)) rfl (by decide) fun a39 hF39 => ?_
      refine sq (v := (.bool true)) hF39 (wantedS rfl) (run_pick rfl (hF39.ev 46 rfl) (hF39.ev 52 rfl) rfl) rfl (by decide) fun a40 hF40 => ?_
      refine sq (v := (.bool true)) hF40 (wantedS rfl) (run_mv rfl (hF40.ev 53 rfl)) rfl (by decide) fun a41 hF41 => ?_
      refine sq (v := (.int .i64 (n : Int))) hF41 (wantedG hF41 rfl rfl rfl rfl rfl) (run_mv rfl (hF41.ev 6 rfl)) rfl (by decide) fun a42 hF42 => ?_
      refine sq (v := (.string ⟨(packS x).toArray⟩)) hF42 (wantedG hF42 rfl rfl rfl rfl rfl) (run_mv rfl (hF42.ev 5 rfl)) rfl (by decide) fun a43 hF43 => ?_
      refine sq (v := (.int .i64 ((packS x).length : Int))) hF43 (wantedG hF43 rfl rfl rfl rfl rfl) (run_len rfl (hF43.ev 56 rfl) rfl Try.underlying9) rfl (by decide) fun a44 hF44 => ?_
      refine sq (v := (.bool false)) hF44 (wantedG hF44 rfl rfl rfl rfl rfl) (run_lss rfl (hF44.ev 55 rfl) (hF44.ev 57 rfl) (decide_eq_false (by omega))) rfl (by decide) fun a45 hF45 => ?_
      refine sq (v := (.bool false)) hF45 (wantedG hF45 rfl rfl rfl rfl rfl) (run_mv rfl (hF45.ev 58 rfl)) rfl (by decide) fun a46 hF46 => ?_
      refine sq (v := (.string ⟨x.toArray⟩)) hF46 (wantedG hF46 rfl rfl rfl rfl rfl) (run_mv rfl (hF46.ev 7 rfl)) rfl (by decide) fun a47 hF47 => ?_
      refine sq (v := (.string ⟨x.toArray⟩)) hF47 (wantedG hF47 rfl rfl rfl rfl rfl) (run_mv rfl (hF47.ev 0 rfl)) rfl (by decide) fun a48 hF48 => ?_
      refine sq (v := (.bool true)) hF48 (wantedG hF48 rfl rfl rfl rfl rfl) (run_eqs rfl (hF48.ev 60 rfl) (hF48.ev 61 rfl) (beq_self_eq_true _)) rfl (by decide) fun a49 hF49 => ?_
      refine sq (v := (.bool true)) hF49 (wantedG hF49 rfl rfl rfl rfl rfl) (run_pick rfl (hF49.ev 59 rfl) rfl (hF49.ev 62 rfl)) rfl (by decide) fun a50 hF50 => ?_
      refine sq (v := (.bool true)) hF50 (wantedS rfl) (run_pick rfl (hF50.ev 54 rfl) (hF50.ev 63 rfl) rfl) rfl (by decide) fun a51 hF51 => ?_
      refine sq (v := (.bool true)) hF51 (wantedS rfl) (run_mv rfl (hF51.ev 64 rfl)) rfl (by decide) fun a52 hF52 => ?_
      refine sqC (v := (.bool true)) hF52 hM2 (wantedG hF52 rfl rfl rfl rfl rfl) (run_call rfl Try.func9 (by kernel_rfl) rfl (mapE0 )) rfl (by decide) (zawake_any w2) fun a53 w3 hb3 hF53 hM3 => ?_
      refine sq (v := (.bool true)) hF53 (wantedS rfl) (run_pick rfl (hF53.ev 65 rfl) (hF53.ev 66 rfl) rfl) rfl (by decide) fun a54 hF54 => ?_
      refine sq (v := (.bool true)) hF54 (wantedS rfl) (run_as rfl (hF54.ev 67 rfl)) rfl (by decide) fun a55 hF55 => ?_
      refine sqEnd ?_
      clear hF27 hF28 hF29 hF30 hF31 hF32 hF33 hF34 hF35 hF36 hF37 hF38 hF39 hF40 hF41 hF42 hF43 hF44 hF45 hF46 hF47 hF48 hF49 hF50 hF51 hF52 hF53 hF54 hM2
      refine nx ?_
      refine wp_ret ?_
      exact ret1 hF55 rfl rfl ⟨rfl, hM3.below⟩
end Go.Proofs.Ytpobmaklgnioeaa
