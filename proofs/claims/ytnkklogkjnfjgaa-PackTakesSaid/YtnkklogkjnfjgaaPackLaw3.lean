/- The walk of the law PackBent. Printed by gen_pack9.py. -/
import Derived.Test.YtnkklogkjnfjgaaPackZ
namespace Go.Proofs.Ytnkklogkjnfjgaa
open Go.RowKit

theorem makeS_err {l : List Bx} (h : (makeS l).2 ≠ 0) : makeS l = ([], (makeS l).2) := by
  unfold makeS at h ⊢
  split
  · rfl
  · split
    · rfl
    · split
      · rfl
      · rename_i h1 h2 h3
        rw [if_neg h1, if_neg h2, if_neg h3] at h
        exact absurd rfl h
set_option maxRecDepth 100000 in
set_option maxHeartbeats 1000000 in
theorem lawPBent_any (l : List Bx) (v : Value) (q : Nat) (m : List UInt8) (w : World) (hV : Sl w v 2 l.length (l.flatMap boxC)) (hn : l.length ≤ maxLen) (hq : q < 65536) (_hm : m.length ≤ maxLen) : Calls Try.prog 4 #[v, .int .u16 (q : Int), .string ⟨m.toArray⟩] w fun e w' => e = .returned (.bool true) ∧ Below w.heap.size w w' := by
  rcases great_01 l with hg | hg
  · skip
    refine walk_enter Try.func4 rfl rfl rfl fun a0 hF0 => ?_
    have hM0 := Mem.new w
    refine wp_seq ?_
    refine wp_region_lit ?_
    refine sq (v := (.bool false)) hF0 (wantedS rfl) (run_as rfl rfl) rfl (by decide) fun a1 hF1 => ?_
    refine sqEnd ?_
    clear hF0
    refine nx ?_
    refine wp_seq ?_
    refine wp_seq ?_
    refine wp_region_lit ?_
    refine sq (v := v) hF1 (wantedS rfl) (run_mv rfl (hF1.ev 0 rfl)) rfl (by decide) fun a2 hF2 => ?_
    refine sqC (v := (.int .i64 (greatS l))) hF2 hM0 (wantedS rfl) (run_call rfl Try.func6 (by kernel_rfl) rfl (mapE1 (hF2.ev 18 rfl))) rfl (by decide) (rgreat_any l v w (hV.below hM0.below) hn) fun a3 w1 hb1 hF3 hM1 => ?_
    refine sq (v := (.bool true)) hF3 (wantedS rfl) (run_gtr rfl (hF3.ev 19 rfl) rfl (decide_eq_true (by omega))) rfl (by decide) fun a4 hF4 => ?_
    refine sq (v := (.bool true)) hF4 (wantedS rfl) (run_mv rfl (hF4.ev 20 rfl)) rfl (by decide) fun a5 hF5 => ?_
    refine sqSkip hF5 (unwantedG hF5 rfl rfl rfl rfl rfl) rfl (by decide) fun a6 hF6 => ?_
    refine sqSkip hF6 (unwantedG hF6 rfl rfl rfl rfl rfl) rfl (by decide) fun a7 hF7 => ?_
    refine sqSkip hF7 (unwantedG hF7 rfl rfl rfl rfl rfl) rfl (by decide) fun a8 hF8 => ?_
    refine sq (v := (.bool true)) hF8 (wantedS rfl) (run_pick rfl (hF8.ev 21 rfl) rfl (hF8.ev 24 rfl)) rfl (by decide) fun a9 hF9 => ?_
    refine sq (v := (.bool true)) hF9 (wantedS rfl) (run_mv rfl (hF9.ev 25 rfl)) rfl (by decide) fun a10 hF10 => ?_
    refine sqSkip hF10 (unwantedG hF10 rfl rfl rfl rfl rfl) rfl (by decide) fun a11 hF11 => ?_
    refine sqSkip hF11 (unwantedG hF11 rfl rfl rfl rfl rfl) rfl (by decide) fun a12 hF12 => ?_
    refine sq (v := (.bool true)) hF12 (wantedS rfl) (run_pick rfl (hF12.ev 26 rfl) rfl (hF12.ev 28 rfl)) rfl (by decide) fun a13 hF13 => ?_
    refine sqEnd ?_
    clear hF1 hF2 hF3 hF4 hF5 hF6 hF7 hF8 hF9 hF10 hF11 hF12 hM0
    refine nx ?_
    refine wp_cond_true (hF13.ev 29 rfl) ?_
    refine wp_seq ?_
    refine wp_region_lit ?_
    refine sqC (v := (.bool true)) hF13 hM1 (wantedS rfl) (run_call rfl Try.func7 (by kernel_rfl) rfl (mapE0 )) rfl (by decide) (awake40_any w1) fun a14 w2 hb2 hF14 hM2 => ?_
    refine sq (v := (.bool true)) hF14 (wantedS rfl) (run_as rfl (hF14.ev 30 rfl)) rfl (by decide) fun a15 hF15 => ?_
    refine sqEnd ?_
    clear hF13 hF14 hM1
    refine nx ?_
    refine wp_ret ?_
    refine nxRet ?_
    exact ret1 hF15 rfl rfl ⟨rfl, hM2.below⟩
  obtain ⟨h12, hfl⟩ := great_ok hg
  by_cases h3 : 300 < m.length
  · skip
    refine walk_enter Try.func4 rfl rfl rfl fun a0 hF0 => ?_
    have hM0 := Mem.new w
    refine wp_seq ?_
    refine wp_region_lit ?_
    refine sq (v := (.bool false)) hF0 (wantedS rfl) (run_as rfl rfl) rfl (by decide) fun a1 hF1 => ?_
    refine sqEnd ?_
    clear hF0
    refine nx ?_
    refine wp_seq ?_
    refine wp_seq ?_
    refine wp_region_lit ?_
    refine sq (v := v) hF1 (wantedS rfl) (run_mv rfl (hF1.ev 0 rfl)) rfl (by decide) fun a2 hF2 => ?_
    refine sqC (v := (.int .i64 (greatS l))) hF2 hM0 (wantedS rfl) (run_call rfl Try.func6 (by kernel_rfl) rfl (mapE1 (hF2.ev 18 rfl))) rfl (by decide) (rgreat_any l v w (hV.below hM0.below) hn) fun a3 w1 hb1 hF3 hM1 => ?_
    refine sq (v := (.bool false)) hF3 (wantedS rfl) (run_gtr rfl (hF3.ev 19 rfl) rfl (decide_eq_false (by omega))) rfl (by decide) fun a4 hF4 => ?_
    refine sq (v := (.bool false)) hF4 (wantedS rfl) (run_mv rfl (hF4.ev 20 rfl)) rfl (by decide) fun a5 hF5 => ?_
    refine sq (v := (.string ⟨m.toArray⟩)) hF5 (wantedG hF5 rfl rfl rfl rfl rfl) (run_mv rfl (hF5.ev 2 rfl)) rfl (by decide) fun a6 hF6 => ?_
    refine sq (v := (.int .i64 (m.length : Int))) hF6 (wantedG hF6 rfl rfl rfl rfl rfl) (run_len rfl (hF6.ev 22 rfl) rfl Try.underlying9) rfl (by decide) fun a7 hF7 => ?_
    refine sq (v := (.bool true)) hF7 (wantedG hF7 rfl rfl rfl rfl rfl) (run_gtr rfl (hF7.ev 23 rfl) rfl (decide_eq_true (by omega))) rfl (by decide) fun a8 hF8 => ?_
    refine sq (v := (.bool true)) hF8 (wantedS rfl) (run_pick rfl (hF8.ev 21 rfl) rfl (hF8.ev 24 rfl)) rfl (by decide) fun a9 hF9 => ?_
    refine sq (v := (.bool true)) hF9 (wantedS rfl) (run_mv rfl (hF9.ev 25 rfl)) rfl (by decide) fun a10 hF10 => ?_
    refine sqSkip hF10 (unwantedG hF10 rfl rfl rfl rfl rfl) rfl (by decide) fun a11 hF11 => ?_
    refine sqSkip hF11 (unwantedG hF11 rfl rfl rfl rfl rfl) rfl (by decide) fun a12 hF12 => ?_
    refine sq (v := (.bool true)) hF12 (wantedS rfl) (run_pick rfl (hF12.ev 26 rfl) rfl (hF12.ev 28 rfl)) rfl (by decide) fun a13 hF13 => ?_
    refine sqEnd ?_
    clear hF1 hF2 hF3 hF4 hF5 hF6 hF7 hF8 hF9 hF10 hF11 hF12 hM0
    refine nx ?_
    refine wp_cond_true (hF13.ev 29 rfl) ?_
    refine wp_seq ?_
    refine wp_region_lit ?_
    refine sqC (v := (.bool true)) hF13 hM1 (wantedS rfl) (run_call rfl Try.func7 (by kernel_rfl) rfl (mapE0 )) rfl (by decide) (awake40_any w1) fun a14 w2 hb2 hF14 hM2 => ?_
    refine sq (v := (.bool true)) hF14 (wantedS rfl) (run_as rfl (hF14.ev 30 rfl)) rfl (by decide) fun a15 hF15 => ?_
    refine sqEnd ?_
    clear hF13 hF14 hM1
    refine nx ?_
    refine wp_ret ?_
    refine nxRet ?_
    exact ret1 hF15 rfl rfl ⟨rfl, hM2.below⟩
  by_cases h0 : m = []
  · skip
    refine walk_enter Try.func4 rfl rfl rfl fun a0 hF0 => ?_
    have hM0 := Mem.new w
    refine wp_seq ?_
    refine wp_region_lit ?_
    refine sq (v := (.bool false)) hF0 (wantedS rfl) (run_as rfl rfl) rfl (by decide) fun a1 hF1 => ?_
    refine sqEnd ?_
    clear hF0
    refine nx ?_
    refine wp_seq ?_
    refine wp_seq ?_
    refine wp_region_lit ?_
    refine sq (v := v) hF1 (wantedS rfl) (run_mv rfl (hF1.ev 0 rfl)) rfl (by decide) fun a2 hF2 => ?_
    refine sqC (v := (.int .i64 (greatS l))) hF2 hM0 (wantedS rfl) (run_call rfl Try.func6 (by kernel_rfl) rfl (mapE1 (hF2.ev 18 rfl))) rfl (by decide) (rgreat_any l v w (hV.below hM0.below) hn) fun a3 w1 hb1 hF3 hM1 => ?_
    refine sq (v := (.bool false)) hF3 (wantedS rfl) (run_gtr rfl (hF3.ev 19 rfl) rfl (decide_eq_false (by omega))) rfl (by decide) fun a4 hF4 => ?_
    refine sq (v := (.bool false)) hF4 (wantedS rfl) (run_mv rfl (hF4.ev 20 rfl)) rfl (by decide) fun a5 hF5 => ?_
    refine sq (v := (.string ⟨m.toArray⟩)) hF5 (wantedG hF5 rfl rfl rfl rfl rfl) (run_mv rfl (hF5.ev 2 rfl)) rfl (by decide) fun a6 hF6 => ?_
    refine sq (v := (.int .i64 (m.length : Int))) hF6 (wantedG hF6 rfl rfl rfl rfl rfl) (run_len rfl (hF6.ev 22 rfl) rfl Try.underlying9) rfl (by decide) fun a7 hF7 => ?_
    refine sq (v := (.bool false)) hF7 (wantedG hF7 rfl rfl rfl rfl rfl) (run_gtr rfl (hF7.ev 23 rfl) rfl (decide_eq_false (by omega))) rfl (by decide) fun a8 hF8 => ?_
    refine sq (v := (.bool false)) hF8 (wantedS rfl) (run_pick rfl (hF8.ev 21 rfl) rfl (hF8.ev 24 rfl)) rfl (by decide) fun a9 hF9 => ?_
    refine sq (v := (.bool false)) hF9 (wantedS rfl) (run_mv rfl (hF9.ev 25 rfl)) rfl (by decide) fun a10 hF10 => ?_
    refine sq (v := (.string ⟨m.toArray⟩)) hF10 (wantedG hF10 rfl rfl rfl rfl rfl) (run_mv rfl (hF10.ev 2 rfl)) rfl (by decide) fun a11 hF11 => ?_
    refine sq (v := (.bool true)) hF11 (wantedG hF11 rfl rfl rfl rfl rfl) (run_eqs rfl (hF11.ev 27 rfl) rfl (by rw [h0]; rfl)) rfl (by decide) fun a12 hF12 => ?_
    refine sq (v := (.bool true)) hF12 (wantedS rfl) (run_pick rfl (hF12.ev 26 rfl) rfl (hF12.ev 28 rfl)) rfl (by decide) fun a13 hF13 => ?_
    refine sqEnd ?_
    clear hF1 hF2 hF3 hF4 hF5 hF6 hF7 hF8 hF9 hF10 hF11 hF12 hM0
    refine nx ?_
    refine wp_cond_true (hF13.ev 29 rfl) ?_
    refine wp_seq ?_
    refine wp_region_lit ?_
    refine sqC (v := (.bool true)) hF13 hM1 (wantedS rfl) (run_call rfl Try.func7 (by kernel_rfl) rfl (mapE0 )) rfl (by decide) (awake40_any w1) fun a14 w2 hb2 hF14 hM2 => ?_
    refine sq (v := (.bool true)) hF14 (wantedS rfl) (run_as rfl (hF14.ev 30 rfl)) rfl (by decide) fun a15 hF15 => ?_
    refine sqEnd ?_
    clear hF13 hF14 hM1
    refine nx ?_
    refine wp_ret ?_
    refine nxRet ?_
    exact ret1 hF15 rfl rfl ⟨rfl, hM2.below⟩
  have hm0 : (m == []) = false := beq_eq_false_iff_ne.2 h0
  by_cases he : (makeS l).2 ≠ 0
  · skip
    refine walk_enter Try.func4 rfl rfl rfl fun a0 hF0 => ?_
    have hM0 := Mem.new w
    refine wp_seq ?_
    refine wp_region_lit ?_
    refine sq (v := (.bool false)) hF0 (wantedS rfl) (run_as rfl rfl) rfl (by decide) fun a1 hF1 => ?_
    refine sqEnd ?_
    clear hF0
    refine nx ?_
    refine wp_seq ?_
    refine wp_seq ?_
    refine wp_region_lit ?_
    refine sq (v := v) hF1 (wantedS rfl) (run_mv rfl (hF1.ev 0 rfl)) rfl (by decide) fun a2 hF2 => ?_
    refine sqC (v := (.int .i64 (greatS l))) hF2 hM0 (wantedS rfl) (run_call rfl Try.func6 (by kernel_rfl) rfl (mapE1 (hF2.ev 18 rfl))) rfl (by decide) (rgreat_any l v w (hV.below hM0.below) hn) fun a3 w1 hb1 hF3 hM1 => ?_
    refine sq (v := (.bool false)) hF3 (wantedS rfl) (run_gtr rfl (hF3.ev 19 rfl) rfl (decide_eq_false (by omega))) rfl (by decide) fun a4 hF4 => ?_
    refine sq (v := (.bool false)) hF4 (wantedS rfl) (run_mv rfl (hF4.ev 20 rfl)) rfl (by decide) fun a5 hF5 => ?_
    refine sq (v := (.string ⟨m.toArray⟩)) hF5 (wantedG hF5 rfl rfl rfl rfl rfl) (run_mv rfl (hF5.ev 2 rfl)) rfl (by decide) fun a6 hF6 => ?_
    refine sq (v := (.int .i64 (m.length : Int))) hF6 (wantedG hF6 rfl rfl rfl rfl rfl) (run_len rfl (hF6.ev 22 rfl) rfl Try.underlying9) rfl (by decide) fun a7 hF7 => ?_
    refine sq (v := (.bool false)) hF7 (wantedG hF7 rfl rfl rfl rfl rfl) (run_gtr rfl (hF7.ev 23 rfl) rfl (decide_eq_false (by omega))) rfl (by decide) fun a8 hF8 => ?_
    refine sq (v := (.bool false)) hF8 (wantedS rfl) (run_pick rfl (hF8.ev 21 rfl) rfl (hF8.ev 24 rfl)) rfl (by decide) fun a9 hF9 => ?_
    refine sq (v := (.bool false)) hF9 (wantedS rfl) (run_mv rfl (hF9.ev 25 rfl)) rfl (by decide) fun a10 hF10 => ?_
    refine sq (v := (.string ⟨m.toArray⟩)) hF10 (wantedG hF10 rfl rfl rfl rfl rfl) (run_mv rfl (hF10.ev 2 rfl)) rfl (by decide) fun a11 hF11 => ?_
    refine sq (v := (.bool false)) hF11 (wantedG hF11 rfl rfl rfl rfl rfl) (run_eqs rfl (hF11.ev 27 rfl) rfl hm0) rfl (by decide) fun a12 hF12 => ?_
    refine sq (v := (.bool false)) hF12 (wantedS rfl) (run_pick rfl (hF12.ev 26 rfl) rfl (hF12.ev 28 rfl)) rfl (by decide) fun a13 hF13 => ?_
    refine sqEnd ?_
    clear hF1 hF2 hF3 hF4 hF5 hF6 hF7 hF8 hF9 hF10 hF11 hF12 hM0
    refine nx ?_
    refine wp_cond_false (hF13.ev 29 rfl) ?_
    refine wp_skip ?_
    refine nx ?_
    refine wp_seq ?_
    refine wp_region_lit ?_
    refine sq (v := v) hF13 (wantedS rfl) (run_mv rfl (hF13.ev 0 rfl)) rfl (by decide) fun a14 hF14 => ?_
    refine sqC (v := (.tuple #[(.string ⟨List.toArray []⟩), (.int .i64 ((makeS l).2))])) hF14 hM1 (wantedS rfl) (run_call rfl Try.func8 (by kernel_rfl) rfl (mapE1 (hF14.ev 32 rfl))) rfl (by decide) (by have h := pmake_any l v w1 (hV.below hM1.below) (by omega) (by omega); rw [makeS_err he] at h; exact h) fun a15 w2 hb2 hF15 hM2 => ?_
    refine sq (v := (.tuple #[(.string ⟨List.toArray []⟩), (.int .i64 ((makeS l).2))])) hF15 (wantedS rfl) (run_mv rfl (hF15.ev 33 rfl)) rfl (by decide) fun a16 hF16 => ?_
    refine sq (v := (.string ⟨List.toArray []⟩)) hF16 (wantedS rfl) (run_ext rfl (hF16.ev 31 rfl) rfl) rfl (by decide) fun a17 hF17 => ?_
    refine sq (v := (.int .i64 ((makeS l).2))) hF17 (wantedS rfl) (run_ext rfl (hF17.ev 31 rfl) rfl) rfl (by decide) fun a18 hF18 => ?_
    refine sq (v := (.string ⟨List.toArray []⟩)) hF18 (wantedS rfl) (run_as rfl (hF18.ev 34 rfl)) rfl (by decide) fun a19 hF19 => ?_
    refine sq (v := (.int .i64 ((makeS l).2))) hF19 (wantedS rfl) (run_as rfl (hF19.ev 35 rfl)) rfl (by decide) fun a20 hF20 => ?_
    refine sqEnd ?_
    clear hF13 hF14 hF15 hF16 hF17 hF18 hF19 hM1
    refine nx ?_
    refine wp_seq ?_
    refine wp_seq ?_
    refine wp_region_lit ?_
    refine sq (v := (.int .i64 ((makeS l).2))) hF20 (wantedS rfl) (run_mv rfl (hF20.ev 8 rfl)) rfl (by decide) fun a21 hF21 => ?_
    refine sq (v := (.bool true)) hF21 (wantedS rfl) (run_nei rfl (hF21.ev 36 rfl) rfl (bne_iff_ne.2 (by omega))) rfl (by decide) fun a22 hF22 => ?_
    refine sq (v := (.bool true)) hF22 (wantedS rfl) (run_mv rfl (hF22.ev 37 rfl)) rfl (by decide) fun a23 hF23 => ?_
    refine sqSkip hF23 (unwantedG hF23 rfl rfl rfl rfl rfl) rfl (by decide) fun a24 hF24 => ?_
    refine sqSkip hF24 (unwantedG hF24 rfl rfl rfl rfl rfl) rfl (by decide) fun a25 hF25 => ?_
    refine sqSkip hF25 (unwantedG hF25 rfl rfl rfl rfl rfl) rfl (by decide) fun a26 hF26 => ?_
    refine sq (v := (.bool true)) hF26 (wantedS rfl) (run_pick rfl (hF26.ev 38 rfl) rfl (hF26.ev 41 rfl)) rfl (by decide) fun a27 hF27 => ?_
    refine sqEnd ?_
    clear hF20 hF21 hF22 hF23 hF24 hF25 hF26
    refine nx ?_
    refine wp_cond_true (hF27.ev 42 rfl) ?_
    refine wp_seq ?_
    refine wp_region_lit ?_
    refine sq (v := (.int .i64 ((makeS l).2))) hF27 (wantedS rfl) (run_mv rfl (hF27.ev 8 rfl)) rfl (by decide) fun a28 hF28 => ?_
    refine sq (v := (.bool true)) hF28 (wantedS rfl) (run_nei rfl (hF28.ev 43 rfl) rfl (bne_iff_ne.2 (by omega))) rfl (by decide) fun a29 hF29 => ?_
    refine sq (v := (.bool true)) hF29 (wantedS rfl) (run_mv rfl (hF29.ev 44 rfl)) rfl (by decide) fun a30 hF30 => ?_
    refine sqC (v := (.bool true)) hF30 hM2 (wantedG hF30 rfl rfl rfl rfl rfl) (run_call rfl Try.func7 (by kernel_rfl) rfl (mapE0 )) rfl (by decide) (awake40_any w2) fun a31 w3 hb3 hF31 hM3 => ?_
    refine sq (v := (.bool true)) hF31 (wantedS rfl) (run_pick rfl (hF31.ev 45 rfl) (hF31.ev 46 rfl) rfl) rfl (by decide) fun a32 hF32 => ?_
    refine sq (v := (.bool true)) hF32 (wantedS rfl) (run_as rfl (hF32.ev 47 rfl)) rfl (by decide) fun a33 hF33 => ?_
    refine sqEnd ?_
    clear hF27 hF28 hF29 hF30 hF31 hF32 hM2
    refine nx ?_
    refine wp_ret ?_
    refine nxRet ?_
    exact ret1 hF33 rfl rfl ⟨rfl, hM3.below⟩
  obtain ⟨hmk, _, _, _, hbl⟩ := ofS_make (Classical.byContradiction he)
  obtain ⟨B, hB⟩ : ∃ B, bytesS l = B := ⟨_, rfl⟩
  rw [hB] at hmk hbl
  have hb0 : 0 < B.length := by rw [← hB]; have := rowS_ge (hibp :: textsB l); rw [List.length_cons] at this; unfold bytesS; omega
  obtain ⟨n, hnn⟩ : ∃ n, q % B.length = n := ⟨_, rfl⟩
  have hnl : n < B.length := by rw [← hnn]; exact Nat.mod_lt _ hb0
  have htl : (B.take n).length = n := by rw [List.length_take]; omega
  refine walk_enter Try.func4 rfl rfl rfl fun a0 hF0 => ?_
  have hM0 := Mem.new w
  refine wp_seq ?_
  refine wp_region_lit ?_
  refine sq (v := (.bool false)) hF0 (wantedS rfl) (run_as rfl rfl) rfl (by decide) fun a1 hF1 => ?_
  refine sqEnd ?_
  clear hF0
  refine nx ?_
  refine wp_seq ?_
  refine wp_seq ?_
  refine wp_region_lit ?_
  refine sq (v := v) hF1 (wantedS rfl) (run_mv rfl (hF1.ev 0 rfl)) rfl (by decide) fun a2 hF2 => ?_
  refine sqC (v := (.int .i64 (greatS l))) hF2 hM0 (wantedS rfl) (run_call rfl Try.func6 (by kernel_rfl) rfl (mapE1 (hF2.ev 18 rfl))) rfl (by decide) (rgreat_any l v w (hV.below hM0.below) hn) fun a3 w1 hb1 hF3 hM1 => ?_
  refine sq (v := (.bool false)) hF3 (wantedS rfl) (run_gtr rfl (hF3.ev 19 rfl) rfl (decide_eq_false (by omega))) rfl (by decide) fun a4 hF4 => ?_
  refine sq (v := (.bool false)) hF4 (wantedS rfl) (run_mv rfl (hF4.ev 20 rfl)) rfl (by decide) fun a5 hF5 => ?_
  refine sq (v := (.string ⟨m.toArray⟩)) hF5 (wantedG hF5 rfl rfl rfl rfl rfl) (run_mv rfl (hF5.ev 2 rfl)) rfl (by decide) fun a6 hF6 => ?_
  refine sq (v := (.int .i64 (m.length : Int))) hF6 (wantedG hF6 rfl rfl rfl rfl rfl) (run_len rfl (hF6.ev 22 rfl) rfl Try.underlying9) rfl (by decide) fun a7 hF7 => ?_
  refine sq (v := (.bool false)) hF7 (wantedG hF7 rfl rfl rfl rfl rfl) (run_gtr rfl (hF7.ev 23 rfl) rfl (decide_eq_false (by omega))) rfl (by decide) fun a8 hF8 => ?_
  refine sq (v := (.bool false)) hF8 (wantedS rfl) (run_pick rfl (hF8.ev 21 rfl) rfl (hF8.ev 24 rfl)) rfl (by decide) fun a9 hF9 => ?_
  refine sq (v := (.bool false)) hF9 (wantedS rfl) (run_mv rfl (hF9.ev 25 rfl)) rfl (by decide) fun a10 hF10 => ?_
  refine sq (v := (.string ⟨m.toArray⟩)) hF10 (wantedG hF10 rfl rfl rfl rfl rfl) (run_mv rfl (hF10.ev 2 rfl)) rfl (by decide) fun a11 hF11 => ?_
  refine sq (v := (.bool false)) hF11 (wantedG hF11 rfl rfl rfl rfl rfl) (run_eqs rfl (hF11.ev 27 rfl) rfl hm0) rfl (by decide) fun a12 hF12 => ?_
  refine sq (v := (.bool false)) hF12 (wantedS rfl) (run_pick rfl (hF12.ev 26 rfl) rfl (hF12.ev 28 rfl)) rfl (by decide) fun a13 hF13 => ?_
  refine sqEnd ?_
  clear hF1 hF2 hF3 hF4 hF5 hF6 hF7 hF8 hF9 hF10 hF11 hF12 hM0
  refine nx ?_
  refine wp_cond_false (hF13.ev 29 rfl) ?_
  refine wp_skip ?_
  refine nx ?_
  refine wp_seq ?_
  refine wp_region_lit ?_
  refine sq (v := v) hF13 (wantedS rfl) (run_mv rfl (hF13.ev 0 rfl)) rfl (by decide) fun a14 hF14 => ?_
  refine sqC (v := (.tuple #[(.string ⟨B.toArray⟩), (.int .i64 0)])) hF14 hM1 (wantedS rfl) (run_call rfl Try.func8 (by kernel_rfl) rfl (mapE1 (hF14.ev 32 rfl))) rfl (by decide) (by have h := pmake_any l v w1 (hV.below hM1.below) (by omega) (by omega); rw [hmk] at h; exact h) fun a15 w2 hb2 hF15 hM2 => ?_
  refine sq (v := (.tuple #[(.string ⟨B.toArray⟩), (.int .i64 0)])) hF15 (wantedS rfl) (run_mv rfl (hF15.ev 33 rfl)) rfl (by decide) fun a16 hF16 => ?_
  refine sq (v := (.string ⟨B.toArray⟩)) hF16 (wantedS rfl) (run_ext rfl (hF16.ev 31 rfl) rfl) rfl (by decide) fun a17 hF17 => ?_
  refine sq (v := (.int .i64 0)) hF17 (wantedS rfl) (run_ext rfl (hF17.ev 31 rfl) rfl) rfl (by decide) fun a18 hF18 => ?_
  refine sq (v := (.string ⟨B.toArray⟩)) hF18 (wantedS rfl) (run_as rfl (hF18.ev 34 rfl)) rfl (by decide) fun a19 hF19 => ?_
  refine sq (v := (.int .i64 0)) hF19 (wantedS rfl) (run_as rfl (hF19.ev 35 rfl)) rfl (by decide) fun a20 hF20 => ?_
  refine sqEnd ?_
  clear hF13 hF14 hF15 hF16 hF17 hF18 hF19 hM1
  refine nx ?_
  refine wp_seq ?_
  refine wp_seq ?_
  refine wp_region_lit ?_
  refine sq (v := (.int .i64 0)) hF20 (wantedS rfl) (run_mv rfl (hF20.ev 8 rfl)) rfl (by decide) fun a21 hF21 => ?_
  refine sq (v := (.bool false)) hF21 (wantedS rfl) (run_nei rfl (hF21.ev 36 rfl) rfl (bne_eq_false_iff_eq.2 (by omega))) rfl (by decide) fun a22 hF22 => ?_
  refine sq (v := (.bool false)) hF22 (wantedS rfl) (run_mv rfl (hF22.ev 37 rfl)) rfl (by decide) fun a23 hF23 => ?_
  refine sq (v := (.string ⟨B.toArray⟩)) hF23 (wantedG hF23 rfl rfl rfl rfl rfl) (run_mv rfl (hF23.ev 7 rfl)) rfl (by decide) fun a24 hF24 => ?_
  refine sq (v := (.int .i64 (B.length : Int))) hF24 (wantedG hF24 rfl rfl rfl rfl rfl) (run_len rfl (hF24.ev 39 rfl) rfl Try.underlying9) rfl (by decide) fun a25 hF25 => ?_
  refine sq (v := (.bool false)) hF25 (wantedG hF25 rfl rfl rfl rfl rfl) (run_eqi rfl (hF25.ev 40 rfl) rfl (beq_eq_false_iff_ne.2 (by omega))) rfl (by decide) fun a26 hF26 => ?_
  refine sq (v := (.bool false)) hF26 (wantedS rfl) (run_pick rfl (hF26.ev 38 rfl) rfl (hF26.ev 41 rfl)) rfl (by decide) fun a27 hF27 => ?_
  refine sqEnd ?_
  clear hF20 hF21 hF22 hF23 hF24 hF25 hF26
  refine nx ?_
  refine wp_cond_false (hF27.ev 42 rfl) ?_
  refine wp_skip ?_
  refine nx ?_
  refine wp_seq ?_
  refine wp_region_lit ?_
  refine sq (v := (.string ⟨B.toArray⟩)) hF27 (wantedS rfl) (run_mv rfl (hF27.ev 7 rfl)) rfl (by decide) fun a28 hF28 => ?_
  refine sq (v := (.int .u16 (q : Int))) hF28 (wantedS rfl) (run_mv rfl (hF28.ev 1 rfl)) rfl (by decide) fun a29 hF29 => ?_
  refine sq (v := (.int .i64 (q : Int))) hF29 (wantedS rfl) (run_cvI (r := (q : Int)) rfl (hF29.ev 49 rfl) Try.underlying31 Try.underlying3 (by rw [IntKind.wrap_i64]; omega)) rfl (by decide) fun a30 hF30 => ?_
  refine sq (v := (.string ⟨B.toArray⟩)) hF30 (wantedS rfl) (run_mv rfl (hF30.ev 7 rfl)) rfl (by decide) fun a31 hF31 => ?_
  refine sq (v := (.int .i64 (B.length : Int))) hF31 (wantedS rfl) (run_len rfl (hF31.ev 51 rfl) rfl Try.underlying9) rfl (by decide) fun a32 hF32 => ?_
  refine sq (v := (.int .i64 (n : Int))) hF32 (wantedS rfl) (run_rem (r := (n : Int)) rfl (hF32.ev 50 rfl) (hF32.ev 52 rfl) (by omega) (by rw [Int.tmod_eq_emod_of_nonneg (by omega), ← hnn]; rfl)) rfl (by decide) fun a33 hF33 => ?_
  refine sq (v := (.string ⟨(B.take n).toArray⟩)) hF33 (wantedS rfl) (run_sTo (n := n) rfl (hF33.ev 48 rfl) (hF33.ev 53 rfl) Try.underlying9 rfl (by omega)) rfl (by decide) fun a34 hF34 => ?_
  refine sq (v := (.string ⟨(B.take n).toArray⟩)) hF34 (wantedS rfl) (run_as rfl (hF34.ev 54 rfl)) rfl (by decide) fun a35 hF35 => ?_
  refine sqEnd ?_
  clear hF27 hF28 hF29 hF30 hF31 hF32 hF33 hF34
  refine nx ?_
  refine wp_seq ?_
  refine wp_region_lit ?_
  refine sq (v := (.string ⟨(B.take n).toArray⟩)) hF35 (wantedS rfl) (run_mv rfl (hF35.ev 9 rfl)) rfl (by decide) fun a36 hF36 => ?_
  refine sqT (T := fun u wx => (∃ v, u = .tuple #[v, .int .i64 (eS (B.take n))] ∧ wx.ownsRow w2.heap.size 39 3 v (zS (B.take n)).length ((zS (B.take n)).flatMap placeC)) ∧ Below w2.heap.size w2 wx) hF36 (wantedS rfl) (run_call rfl Try.func9 (by kernel_rfl) rfl (mapE1 (hF36.ev 56 rfl))) rfl (by decide) (pof_z (B.take n) w2 (by first | omega | decide | (simp; done) | (simp; omega))) fun u0 a37 w3 hT3 hF37 => ?_
  obtain ⟨⟨v1, rfl, hr3⟩, hb3⟩ := hT3
  have hO1 := OwnR.ofCall hM2 hr3
  have hM3 := hM2.grow hb3
  refine sq (v := (.tuple #[v1, (.int .i64 (eS (B.take n)))])) hF37 (wantedS rfl) (run_mv rfl (hF37.ev 57 rfl)) rfl (by decide) fun a38 hF38 => ?_
  refine sq (v := v1) hF38 (wantedS rfl) (run_ext rfl (hF38.ev 55 rfl) rfl) rfl (by decide) fun a39 hF39 => ?_
  refine sq (v := (.int .i64 (eS (B.take n)))) hF39 (wantedS rfl) (run_ext rfl (hF39.ev 55 rfl) rfl) rfl (by decide) fun a40 hF40 => ?_
  refine sq (v := v1) hF40 (wantedS rfl) (run_as rfl (hF40.ev 58 rfl)) rfl (by decide) fun a41 hF41 => ?_
  refine sq (v := (.int .i64 (eS (B.take n)))) hF41 (wantedS rfl) (run_as rfl (hF41.ev 59 rfl)) rfl (by decide) fun a42 hF42 => ?_
  refine sqEnd ?_
  clear hF35 hF36 hF37 hF38 hF39 hF40 hF41 hM2
  refine nx ?_
  refine wp_seq ?_
  refine wp_region_lit ?_
  refine sq (v := (.string ⟨(B.take n).toArray⟩)) hF42 (wantedS rfl) (run_mv rfl (hF42.ev 9 rfl)) rfl (by decide) fun a43 hF43 => ?_
  refine sqT (T := fun u wx => (∃ v, u = .tuple #[v, .int .i64 (eS (B.take n))] ∧ wx.ownsRow w3.heap.size 39 3 v (zS (B.take n)).length ((zS (B.take n)).flatMap placeC)) ∧ Below w3.heap.size w3 wx) hF43 (wantedS rfl) (run_call rfl Try.func10 (by kernel_rfl) rfl (mapE1 (hF43.ev 61 rfl))) rfl (by decide) (rof_z (B.take n) w3 (by first | omega | decide | (simp; done) | (simp; omega))) fun u2 a44 w4 hT4 hF44 => ?_
  obtain ⟨⟨v3, rfl, hr4⟩, hb4⟩ := hT4
  have hO2 := OwnR.ofCall hM3 hr4
  have hM4 := hM3.grow hb4
  have hO3 := hO1.grow hb4
  refine sq (v := (.tuple #[v3, (.int .i64 (eS (B.take n)))])) hF44 (wantedS rfl) (run_mv rfl (hF44.ev 62 rfl)) rfl (by decide) fun a45 hF45 => ?_
  refine sq (v := v3) hF45 (wantedS rfl) (run_ext rfl (hF45.ev 60 rfl) rfl) rfl (by decide) fun a46 hF46 => ?_
  refine sq (v := (.int .i64 (eS (B.take n)))) hF46 (wantedS rfl) (run_ext rfl (hF46.ev 60 rfl) rfl) rfl (by decide) fun a47 hF47 => ?_
  refine sq (v := v3) hF47 (wantedS rfl) (run_as rfl (hF47.ev 63 rfl)) rfl (by decide) fun a48 hF48 => ?_
  refine sq (v := (.int .i64 (eS (B.take n)))) hF48 (wantedS rfl) (run_as rfl (hF48.ev 64 rfl)) rfl (by decide) fun a49 hF49 => ?_
  refine sqEnd ?_
  clear hF42 hF43 hF44 hF45 hF46 hF47 hF48 hM3
  refine nx ?_
  refine wp_seq ?_
  refine wp_region_lit ?_
  refine sq (v := (.string ⟨B.toArray⟩)) hF49 (wantedS rfl) (run_mv rfl (hF49.ev 7 rfl)) rfl (by decide) fun a50 hF50 => ?_
  refine sq (v := (.string ⟨m.toArray⟩)) hF50 (wantedS rfl) (run_mv rfl (hF50.ev 2 rfl)) rfl (by decide) fun a51 hF51 => ?_
  refine sq (v := (.string ⟨(B ++ m).toArray⟩)) hF51 (wantedS rfl) (run_cat rfl (hF51.ev 66 rfl) (hF51.ev 67 rfl) (by first | omega | decide | (simp; done) | (simp; omega))) rfl (by decide) fun a52 hF52 => ?_
  refine sqT (T := fun u wx => (∃ v, u = .tuple #[v, .int .i64 (eS (B ++ m))] ∧ wx.ownsRow w4.heap.size 39 3 v (zS (B ++ m)).length ((zS (B ++ m)).flatMap placeC)) ∧ Below w4.heap.size w4 wx) hF52 (wantedS rfl) (run_call rfl Try.func9 (by kernel_rfl) rfl (mapE1 (hF52.ev 68 rfl))) rfl (by decide) (pof_z (B ++ m) w4 (by first | omega | decide | (simp; done) | (simp; omega))) fun u4 a53 w5 hT5 hF53 => ?_
  obtain ⟨⟨v5, rfl, hr5⟩, hb5⟩ := hT5
  have hO4 := OwnR.ofCall hM4 hr5
  have hM5 := hM4.grow hb5
  have hO5 := hO3.grow hb5
  have hO6 := hO2.grow hb5
  refine sq (v := (.tuple #[v5, (.int .i64 (eS (B ++ m)))])) hF53 (wantedS rfl) (run_mv rfl (hF53.ev 69 rfl)) rfl (by decide) fun a54 hF54 => ?_
  refine sq (v := v5) hF54 (wantedS rfl) (run_ext rfl (hF54.ev 65 rfl) rfl) rfl (by decide) fun a55 hF55 => ?_
  refine sq (v := (.int .i64 (eS (B ++ m)))) hF55 (wantedS rfl) (run_ext rfl (hF55.ev 65 rfl) rfl) rfl (by decide) fun a56 hF56 => ?_
  refine sq (v := v5) hF56 (wantedS rfl) (run_as rfl (hF56.ev 70 rfl)) rfl (by decide) fun a57 hF57 => ?_
  refine sq (v := (.int .i64 (eS (B ++ m)))) hF57 (wantedS rfl) (run_as rfl (hF57.ev 71 rfl)) rfl (by decide) fun a58 hF58 => ?_
  refine sqEnd ?_
  clear hF49 hF50 hF51 hF52 hF53 hF54 hF55 hF56 hF57 hM4
  refine nx ?_
  refine wp_seq ?_
  refine wp_region_lit ?_
  refine sq (v := (.string ⟨B.toArray⟩)) hF58 (wantedS rfl) (run_mv rfl (hF58.ev 7 rfl)) rfl (by decide) fun a59 hF59 => ?_
  refine sq (v := (.string ⟨m.toArray⟩)) hF59 (wantedS rfl) (run_mv rfl (hF59.ev 2 rfl)) rfl (by decide) fun a60 hF60 => ?_
  refine sq (v := (.string ⟨(B ++ m).toArray⟩)) hF60 (wantedS rfl) (run_cat rfl (hF60.ev 73 rfl) (hF60.ev 74 rfl) (by first | omega | decide | (simp; done) | (simp; omega))) rfl (by decide) fun a61 hF61 => ?_
  refine sqT (T := fun u wx => (∃ v, u = .tuple #[v, .int .i64 (eS (B ++ m))] ∧ wx.ownsRow w5.heap.size 39 3 v (zS (B ++ m)).length ((zS (B ++ m)).flatMap placeC)) ∧ Below w5.heap.size w5 wx) hF61 (wantedS rfl) (run_call rfl Try.func10 (by kernel_rfl) rfl (mapE1 (hF61.ev 75 rfl))) rfl (by decide) (rof_z (B ++ m) w5 (by first | omega | decide | (simp; done) | (simp; omega))) fun u6 a62 w6 hT6 hF62 => ?_
  obtain ⟨⟨v7, rfl, hr6⟩, hb6⟩ := hT6
  have hO7 := OwnR.ofCall hM5 hr6
  have hM6 := hM5.grow hb6
  have hO8 := hO5.grow hb6
  have hO9 := hO6.grow hb6
  have hO10 := hO4.grow hb6
  refine sq (v := (.tuple #[v7, (.int .i64 (eS (B ++ m)))])) hF62 (wantedS rfl) (run_mv rfl (hF62.ev 76 rfl)) rfl (by decide) fun a63 hF63 => ?_
  refine sq (v := v7) hF63 (wantedS rfl) (run_ext rfl (hF63.ev 72 rfl) rfl) rfl (by decide) fun a64 hF64 => ?_
  refine sq (v := (.int .i64 (eS (B ++ m)))) hF64 (wantedS rfl) (run_ext rfl (hF64.ev 72 rfl) rfl) rfl (by decide) fun a65 hF65 => ?_
  refine sq (v := v7) hF65 (wantedS rfl) (run_as rfl (hF65.ev 77 rfl)) rfl (by decide) fun a66 hF66 => ?_
  refine sq (v := (.int .i64 (eS (B ++ m)))) hF66 (wantedS rfl) (run_as rfl (hF66.ev 78 rfl)) rfl (by decide) fun a67 hF67 => ?_
  refine sqEnd ?_
  clear hF58 hF59 hF60 hF61 hF62 hF63 hF64 hF65 hF66 hM5
  refine nx ?_
  refine wp_seq ?_
  refine wp_region_lit ?_
  refine sq (v := (.int .i64 (eS (B.take n)))) hF67 (wantedS rfl) (run_mv rfl (hF67.ev 11 rfl)) rfl (by decide) fun a68 hF68 => ?_
  refine sq (v := (.int .i64 (eS (B.take n)))) hF68 (wantedS rfl) (run_mv rfl (hF68.ev 13 rfl)) rfl (by decide) fun a69 hF69 => ?_
  refine sq (v := (.bool true)) hF69 (wantedS rfl) (run_eqi rfl (hF69.ev 79 rfl) (hF69.ev 80 rfl) (beq_self_eq_true _)) rfl (by decide) fun a70 hF70 => ?_
  refine sq (v := (.bool true)) hF70 (wantedS rfl) (run_mv rfl (hF70.ev 81 rfl)) rfl (by decide) fun a71 hF71 => ?_
  refine sq (v := (.int .i64 (eS (B ++ m)))) hF71 (wantedG hF71 rfl rfl rfl rfl rfl) (run_mv rfl (hF71.ev 15 rfl)) rfl (by decide) fun a72 hF72 => ?_
  refine sq (v := (.int .i64 (eS (B ++ m)))) hF72 (wantedG hF72 rfl rfl rfl rfl rfl) (run_mv rfl (hF72.ev 17 rfl)) rfl (by decide) fun a73 hF73 => ?_
  refine sq (v := (.bool true)) hF73 (wantedG hF73 rfl rfl rfl rfl rfl) (run_eqi rfl (hF73.ev 83 rfl) (hF73.ev 84 rfl) (beq_self_eq_true _)) rfl (by decide) fun a74 hF74 => ?_
  refine sq (v := (.bool true)) hF74 (wantedS rfl) (run_pick rfl (hF74.ev 82 rfl) (hF74.ev 85 rfl) rfl) rfl (by decide) fun a75 hF75 => ?_
  refine sq (v := (.bool true)) hF75 (wantedS rfl) (run_mv rfl (hF75.ev 86 rfl)) rfl (by decide) fun a76 hF76 => ?_
  refine sqC (v := (.bool true)) hF76 hM6 (wantedG hF76 rfl rfl rfl rfl rfl) (run_call rfl Try.func7 (by kernel_rfl) rfl (mapE0 )) rfl (by decide) (awake40_any w6) fun a77 w7 hb7 hF77 hM7 => ?_
  have hO11 := hO8.grow hb7
  have hO12 := hO9.grow hb7
  have hO13 := hO10.grow hb7
  have hO14 := hO7.grow hb7
  refine sq (v := (.bool true)) hF77 (wantedS rfl) (run_pick rfl (hF77.ev 87 rfl) (hF77.ev 88 rfl) rfl) rfl (by decide) fun a78 hF78 => ?_
  refine sq (v := (.bool true)) hF78 (wantedS rfl) (run_as rfl (hF78.ev 89 rfl)) rfl (by decide) fun a79 hF79 => ?_
  refine sqEnd ?_
  clear hF67 hF68 hF69 hF70 hF71 hF72 hF73 hF74 hF75 hF76 hF77 hF78 hM6
  refine nx ?_
  refine wp_ret ?_
  exact ret1 hF79 rfl rfl ⟨rfl, hM7.below⟩
end Go.Proofs.Ytnkklogkjnfjgaa
