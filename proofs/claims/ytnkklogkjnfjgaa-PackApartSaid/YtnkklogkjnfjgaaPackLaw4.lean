/- The walk of the law PackApart. Printed by gen_pack9.py. -/
import Derived.Test.YtnkklogkjnfjgaaPackLaw3
namespace Go.Proofs.Ytnkklogkjnfjgaa
open Go.RowKit

theorem take_next {l r : List Bx} {i : Nat} {x y : Bx} (hx : l[i]? = some x) (hy : r[i]? = some y) (hxy : x = y) (h : l.take i = r.take i) : l.take (i + 1) = r.take (i + 1) := by
  obtain ⟨h1, rfl⟩ := List.getElem?_eq_some_iff.1 hx
  obtain ⟨h2, rfl⟩ := List.getElem?_eq_some_iff.1 hy
  rw [List.take_succ_eq_append_getElem h1, List.take_succ_eq_append_getElem h2, h, hxy]
set_option maxRecDepth 100000 in
set_option maxHeartbeats 1000000 in
theorem lawPApart_any (l : List Bx) (v : Value) (r : List Bx) (u : Value) (w : World) (hV : Sl w v 2 l.length (l.flatMap boxC)) (hn : l.length ≤ maxLen) (hU : Sl w u 2 r.length (r.flatMap boxC)) (hn2 : r.length ≤ maxLen) : Calls Try.prog 3 #[v, u] w fun e w' => e = .returned (.bool true) ∧ Below w.heap.size w w' := by
  rcases great_01 l with hg | hg
  · skip
    refine walk_enter Try.func3 rfl rfl rfl fun a0 hF0 => ?_
    have hM0 := Mem.new w
    refine wp_seq ?_
    refine wp_region_lit ?_
    refine sq (v := (.bool false)) hF0 (wantedS rfl) (run_as rfl rfl) rfl (by decide) fun a1 hF1 => ?_
    refine sqEnd ?_
    clear hF0
    refine nx ?_
    refine wp_seq ?_
    refine wp_seq ?_
    refine wp_region_lit ?_
    refine sq (v := v) hF1 (wantedS rfl) (run_mv rfl (hF1.ev 0 rfl)) rfl (by decide) fun a2 hF2 => ?_
    refine sqC (v := (.int .i64 (greatS l))) hF2 hM0 (wantedS rfl) (run_call rfl Try.func6 (by kernel_rfl) rfl (mapE1 (hF2.ev 11 rfl))) rfl (by decide) (rgreat_any l v w (hV.below hM0.below) hn) fun a3 w1 hb1 hF3 hM1 => ?_
    refine sq (v := (.bool true)) hF3 (wantedS rfl) (run_gtr rfl (hF3.ev 12 rfl) rfl (decide_eq_true (by omega))) rfl (by decide) fun a4 hF4 => ?_
    refine sq (v := (.bool true)) hF4 (wantedS rfl) (run_mv rfl (hF4.ev 13 rfl)) rfl (by decide) fun a5 hF5 => ?_
    refine sqSkip hF5 (unwantedG hF5 rfl rfl rfl rfl rfl) rfl (by decide) fun a6 hF6 => ?_
    refine sqSkip hF6 (unwantedG hF6 rfl rfl rfl rfl rfl) rfl (by decide) fun a7 hF7 => ?_
    refine sqSkip hF7 (unwantedG hF7 rfl rfl rfl rfl rfl) rfl (by decide) fun a8 hF8 => ?_
    refine sq (v := (.bool true)) hF8 (wantedS rfl) (run_pick rfl (hF8.ev 14 rfl) rfl (hF8.ev 17 rfl)) rfl (by decide) fun a9 hF9 => ?_
    refine sqEnd ?_
    clear hF1 hF2 hF3 hF4 hF5 hF6 hF7 hF8 hM0
    refine nx ?_
    refine wp_cond_true (hF9.ev 18 rfl) ?_
    refine wp_seq ?_
    refine wp_region_lit ?_
    refine sqC (v := (.bool true)) hF9 hM1 (wantedS rfl) (run_call rfl Try.func7 (by kernel_rfl) rfl (mapE0 )) rfl (by decide) (awake40_any w1) fun a10 w2 hb2 hF10 hM2 => ?_
    refine sq (v := (.bool true)) hF10 (wantedS rfl) (run_as rfl (hF10.ev 19 rfl)) rfl (by decide) fun a11 hF11 => ?_
    refine sqEnd ?_
    clear hF9 hF10 hM1
    refine nx ?_
    refine wp_ret ?_
    refine nxRet ?_
    exact ret1 hF11 rfl rfl ⟨rfl, hM2.below⟩
  obtain ⟨h12, hfl⟩ := great_ok hg
  rcases great_01 r with hg2 | hg2
  · skip
    refine walk_enter Try.func3 rfl rfl rfl fun a0 hF0 => ?_
    have hM0 := Mem.new w
    refine wp_seq ?_
    refine wp_region_lit ?_
    refine sq (v := (.bool false)) hF0 (wantedS rfl) (run_as rfl rfl) rfl (by decide) fun a1 hF1 => ?_
    refine sqEnd ?_
    clear hF0
    refine nx ?_
    refine wp_seq ?_
    refine wp_seq ?_
    refine wp_region_lit ?_
    refine sq (v := v) hF1 (wantedS rfl) (run_mv rfl (hF1.ev 0 rfl)) rfl (by decide) fun a2 hF2 => ?_
    refine sqC (v := (.int .i64 (greatS l))) hF2 hM0 (wantedS rfl) (run_call rfl Try.func6 (by kernel_rfl) rfl (mapE1 (hF2.ev 11 rfl))) rfl (by decide) (rgreat_any l v w (hV.below hM0.below) hn) fun a3 w1 hb1 hF3 hM1 => ?_
    refine sq (v := (.bool false)) hF3 (wantedS rfl) (run_gtr rfl (hF3.ev 12 rfl) rfl (decide_eq_false (by omega))) rfl (by decide) fun a4 hF4 => ?_
    refine sq (v := (.bool false)) hF4 (wantedS rfl) (run_mv rfl (hF4.ev 13 rfl)) rfl (by decide) fun a5 hF5 => ?_
    refine sq (v := u) hF5 (wantedG hF5 rfl rfl rfl rfl rfl) (run_mv rfl (hF5.ev 1 rfl)) rfl (by decide) fun a6 hF6 => ?_
    refine sqC (v := (.int .i64 (greatS r))) hF6 hM1 (wantedG hF6 rfl rfl rfl rfl rfl) (run_call rfl Try.func6 (by kernel_rfl) rfl (mapE1 (hF6.ev 15 rfl))) rfl (by decide) (rgreat_any r u w1 (hU.below hM1.below) hn2) fun a7 w2 hb2 hF7 hM2 => ?_
    refine sq (v := (.bool true)) hF7 (wantedG hF7 rfl rfl rfl rfl rfl) (run_gtr rfl (hF7.ev 16 rfl) rfl (decide_eq_true (by omega))) rfl (by decide) fun a8 hF8 => ?_
    refine sq (v := (.bool true)) hF8 (wantedS rfl) (run_pick rfl (hF8.ev 14 rfl) rfl (hF8.ev 17 rfl)) rfl (by decide) fun a9 hF9 => ?_
    refine sqEnd ?_
    clear hF1 hF2 hF3 hF4 hF5 hF6 hF7 hF8 hM0 hM1
    refine nx ?_
    refine wp_cond_true (hF9.ev 18 rfl) ?_
    refine wp_seq ?_
    refine wp_region_lit ?_
    refine sqC (v := (.bool true)) hF9 hM2 (wantedS rfl) (run_call rfl Try.func7 (by kernel_rfl) rfl (mapE0 )) rfl (by decide) (awake40_any w2) fun a10 w3 hb3 hF10 hM3 => ?_
    refine sq (v := (.bool true)) hF10 (wantedS rfl) (run_as rfl (hF10.ev 19 rfl)) rfl (by decide) fun a11 hF11 => ?_
    refine sqEnd ?_
    clear hF9 hF10 hM2
    refine nx ?_
    refine wp_ret ?_
    refine nxRet ?_
    exact ret1 hF11 rfl rfl ⟨rfl, hM3.below⟩
  obtain ⟨h122, hfl2⟩ := great_ok hg2
  by_cases he : (makeS l).2 ≠ 0
  · skip
    refine walk_enter Try.func3 rfl rfl rfl fun a0 hF0 => ?_
    have hM0 := Mem.new w
    refine wp_seq ?_
    refine wp_region_lit ?_
    refine sq (v := (.bool false)) hF0 (wantedS rfl) (run_as rfl rfl) rfl (by decide) fun a1 hF1 => ?_
    refine sqEnd ?_
    clear hF0
    refine nx ?_
    refine wp_seq ?_
    refine wp_seq ?_
    refine wp_region_lit ?_
    refine sq (v := v) hF1 (wantedS rfl) (run_mv rfl (hF1.ev 0 rfl)) rfl (by decide) fun a2 hF2 => ?_
    refine sqC (v := (.int .i64 (greatS l))) hF2 hM0 (wantedS rfl) (run_call rfl Try.func6 (by kernel_rfl) rfl (mapE1 (hF2.ev 11 rfl))) rfl (by decide) (rgreat_any l v w (hV.below hM0.below) hn) fun a3 w1 hb1 hF3 hM1 => ?_
    refine sq (v := (.bool false)) hF3 (wantedS rfl) (run_gtr rfl (hF3.ev 12 rfl) rfl (decide_eq_false (by omega))) rfl (by decide) fun a4 hF4 => ?_
    refine sq (v := (.bool false)) hF4 (wantedS rfl) (run_mv rfl (hF4.ev 13 rfl)) rfl (by decide) fun a5 hF5 => ?_
    refine sq (v := u) hF5 (wantedG hF5 rfl rfl rfl rfl rfl) (run_mv rfl (hF5.ev 1 rfl)) rfl (by decide) fun a6 hF6 => ?_
    refine sqC (v := (.int .i64 (greatS r))) hF6 hM1 (wantedG hF6 rfl rfl rfl rfl rfl) (run_call rfl Try.func6 (by kernel_rfl) rfl (mapE1 (hF6.ev 15 rfl))) rfl (by decide) (rgreat_any r u w1 (hU.below hM1.below) hn2) fun a7 w2 hb2 hF7 hM2 => ?_
    refine sq (v := (.bool false)) hF7 (wantedG hF7 rfl rfl rfl rfl rfl) (run_gtr rfl (hF7.ev 16 rfl) rfl (decide_eq_false (by omega))) rfl (by decide) fun a8 hF8 => ?_
    refine sq (v := (.bool false)) hF8 (wantedS rfl) (run_pick rfl (hF8.ev 14 rfl) rfl (hF8.ev 17 rfl)) rfl (by decide) fun a9 hF9 => ?_
    refine sqEnd ?_
    clear hF1 hF2 hF3 hF4 hF5 hF6 hF7 hF8 hM0 hM1
    refine nx ?_
    refine wp_cond_false (hF9.ev 18 rfl) ?_
    refine wp_skip ?_
    refine nx ?_
    refine wp_seq ?_
    refine wp_region_lit ?_
    refine sq (v := v) hF9 (wantedS rfl) (run_mv rfl (hF9.ev 0 rfl)) rfl (by decide) fun a10 hF10 => ?_
    refine sqC (v := (.tuple #[(.string ⟨List.toArray []⟩), (.int .i64 ((makeS l).2))])) hF10 hM2 (wantedS rfl) (run_call rfl Try.func8 (by kernel_rfl) rfl (mapE1 (hF10.ev 21 rfl))) rfl (by decide) (by have h := pmake_any l v w2 (hV.below hM2.below) (by omega) (by omega); rw [makeS_err he] at h; exact h) fun a11 w3 hb3 hF11 hM3 => ?_
    refine sq (v := (.tuple #[(.string ⟨List.toArray []⟩), (.int .i64 ((makeS l).2))])) hF11 (wantedS rfl) (run_mv rfl (hF11.ev 22 rfl)) rfl (by decide) fun a12 hF12 => ?_
    refine sq (v := (.string ⟨List.toArray []⟩)) hF12 (wantedS rfl) (run_ext rfl (hF12.ev 20 rfl) rfl) rfl (by decide) fun a13 hF13 => ?_
    refine sq (v := (.int .i64 ((makeS l).2))) hF13 (wantedS rfl) (run_ext rfl (hF13.ev 20 rfl) rfl) rfl (by decide) fun a14 hF14 => ?_
    refine sq (v := (.string ⟨List.toArray []⟩)) hF14 (wantedS rfl) (run_as rfl (hF14.ev 23 rfl)) rfl (by decide) fun a15 hF15 => ?_
    refine sq (v := (.int .i64 ((makeS l).2))) hF15 (wantedS rfl) (run_as rfl (hF15.ev 24 rfl)) rfl (by decide) fun a16 hF16 => ?_
    refine sqEnd ?_
    clear hF9 hF10 hF11 hF12 hF13 hF14 hF15 hM2
    refine nx ?_
    refine wp_seq ?_
    refine wp_region_lit ?_
    refine sq (v := u) hF16 (wantedS rfl) (run_mv rfl (hF16.ev 1 rfl)) rfl (by decide) fun a17 hF17 => ?_
    refine sqC (v := (.tuple #[(.string ⟨((makeS r).1).toArray⟩), (.int .i64 ((makeS r).2))])) hF17 hM3 (wantedS rfl) (run_call rfl Try.func8 (by kernel_rfl) rfl (mapE1 (hF17.ev 26 rfl))) rfl (by decide) (by have h := pmake_any r u w3 (hU.below hM3.below) (by omega) (by omega); rw [show makeS r = ((makeS r).1, (makeS r).2) from rfl] at h; exact h) fun a18 w4 hb4 hF18 hM4 => ?_
    refine sq (v := (.tuple #[(.string ⟨((makeS r).1).toArray⟩), (.int .i64 ((makeS r).2))])) hF18 (wantedS rfl) (run_mv rfl (hF18.ev 27 rfl)) rfl (by decide) fun a19 hF19 => ?_
    refine sq (v := (.string ⟨((makeS r).1).toArray⟩)) hF19 (wantedS rfl) (run_ext rfl (hF19.ev 25 rfl) rfl) rfl (by decide) fun a20 hF20 => ?_
    refine sq (v := (.int .i64 ((makeS r).2))) hF20 (wantedS rfl) (run_ext rfl (hF20.ev 25 rfl) rfl) rfl (by decide) fun a21 hF21 => ?_
    refine sq (v := (.string ⟨((makeS r).1).toArray⟩)) hF21 (wantedS rfl) (run_as rfl (hF21.ev 28 rfl)) rfl (by decide) fun a22 hF22 => ?_
    refine sq (v := (.int .i64 ((makeS r).2))) hF22 (wantedS rfl) (run_as rfl (hF22.ev 29 rfl)) rfl (by decide) fun a23 hF23 => ?_
    refine sqEnd ?_
    clear hF16 hF17 hF18 hF19 hF20 hF21 hF22 hM3
    refine nx ?_
    refine wp_seq ?_
    refine wp_seq ?_
    refine wp_region_lit ?_
    refine sq (v := (.int .i64 ((makeS l).2))) hF23 (wantedS rfl) (run_mv rfl (hF23.ev 6 rfl)) rfl (by decide) fun a24 hF24 => ?_
    refine sq (v := (.bool true)) hF24 (wantedS rfl) (run_nei rfl (hF24.ev 30 rfl) rfl (bne_iff_ne.2 (by omega))) rfl (by decide) fun a25 hF25 => ?_
    refine sq (v := (.bool true)) hF25 (wantedS rfl) (run_mv rfl (hF25.ev 31 rfl)) rfl (by decide) fun a26 hF26 => ?_
    refine sqSkip hF26 (unwantedG hF26 rfl rfl rfl rfl rfl) rfl (by decide) fun a27 hF27 => ?_
    refine sqSkip hF27 (unwantedG hF27 rfl rfl rfl rfl rfl) rfl (by decide) fun a28 hF28 => ?_
    refine sq (v := (.bool true)) hF28 (wantedS rfl) (run_pick rfl (hF28.ev 32 rfl) rfl (hF28.ev 34 rfl)) rfl (by decide) fun a29 hF29 => ?_
    refine sqEnd ?_
    clear hF23 hF24 hF25 hF26 hF27 hF28
    refine nx ?_
    refine wp_cond_true (hF29.ev 35 rfl) ?_
    refine wp_seq ?_
    refine wp_region_lit ?_
    refine sqC (v := (.bool true)) hF29 hM4 (wantedS rfl) (run_call rfl Try.func7 (by kernel_rfl) rfl (mapE0 )) rfl (by decide) (awake40_any w4) fun a30 w5 hb5 hF30 hM5 => ?_
    refine sq (v := (.bool true)) hF30 (wantedS rfl) (run_as rfl (hF30.ev 36 rfl)) rfl (by decide) fun a31 hF31 => ?_
    refine sqEnd ?_
    clear hF29 hF30 hM4
    refine nx ?_
    refine wp_ret ?_
    refine nxRet ?_
    exact ret1 hF31 rfl rfl ⟨rfl, hM5.below⟩
  obtain ⟨hmk, hof, _, _, _⟩ := ofS_make (Classical.byContradiction he)
  obtain ⟨A, hA⟩ : ∃ A, bytesS l = A := ⟨_, rfl⟩
  rw [hA] at hmk hof
  by_cases he2 : (makeS r).2 ≠ 0
  · skip
    refine walk_enter Try.func3 rfl rfl rfl fun a0 hF0 => ?_
    have hM0 := Mem.new w
    refine wp_seq ?_
    refine wp_region_lit ?_
    refine sq (v := (.bool false)) hF0 (wantedS rfl) (run_as rfl rfl) rfl (by decide) fun a1 hF1 => ?_
    refine sqEnd ?_
    clear hF0
    refine nx ?_
    refine wp_seq ?_
    refine wp_seq ?_
    refine wp_region_lit ?_
    refine sq (v := v) hF1 (wantedS rfl) (run_mv rfl (hF1.ev 0 rfl)) rfl (by decide) fun a2 hF2 => ?_
    refine sqC (v := (.int .i64 (greatS l))) hF2 hM0 (wantedS rfl) (run_call rfl Try.func6 (by kernel_rfl) rfl (mapE1 (hF2.ev 11 rfl))) rfl (by decide) (rgreat_any l v w (hV.below hM0.below) hn) fun a3 w1 hb1 hF3 hM1 => ?_
    refine sq (v := (.bool false)) hF3 (wantedS rfl) (run_gtr rfl (hF3.ev 12 rfl) rfl (decide_eq_false (by omega))) rfl (by decide) fun a4 hF4 => ?_
    refine sq (v := (.bool false)) hF4 (wantedS rfl) (run_mv rfl (hF4.ev 13 rfl)) rfl (by decide) fun a5 hF5 => ?_
    refine sq (v := u) hF5 (wantedG hF5 rfl rfl rfl rfl rfl) (run_mv rfl (hF5.ev 1 rfl)) rfl (by decide) fun a6 hF6 => ?_
    refine sqC (v := (.int .i64 (greatS r))) hF6 hM1 (wantedG hF6 rfl rfl rfl rfl rfl) (run_call rfl Try.func6 (by kernel_rfl) rfl (mapE1 (hF6.ev 15 rfl))) rfl (by decide) (rgreat_any r u w1 (hU.below hM1.below) hn2) fun a7 w2 hb2 hF7 hM2 => ?_
    refine sq (v := (.bool false)) hF7 (wantedG hF7 rfl rfl rfl rfl rfl) (run_gtr rfl (hF7.ev 16 rfl) rfl (decide_eq_false (by omega))) rfl (by decide) fun a8 hF8 => ?_
    refine sq (v := (.bool false)) hF8 (wantedS rfl) (run_pick rfl (hF8.ev 14 rfl) rfl (hF8.ev 17 rfl)) rfl (by decide) fun a9 hF9 => ?_
    refine sqEnd ?_
    clear hF1 hF2 hF3 hF4 hF5 hF6 hF7 hF8 hM0 hM1
    refine nx ?_
    refine wp_cond_false (hF9.ev 18 rfl) ?_
    refine wp_skip ?_
    refine nx ?_
    refine wp_seq ?_
    refine wp_region_lit ?_
    refine sq (v := v) hF9 (wantedS rfl) (run_mv rfl (hF9.ev 0 rfl)) rfl (by decide) fun a10 hF10 => ?_
    refine sqC (v := (.tuple #[(.string ⟨A.toArray⟩), (.int .i64 0)])) hF10 hM2 (wantedS rfl) (run_call rfl Try.func8 (by kernel_rfl) rfl (mapE1 (hF10.ev 21 rfl))) rfl (by decide) (by have h := pmake_any l v w2 (hV.below hM2.below) (by omega) (by omega); rw [hmk] at h; exact h) fun a11 w3 hb3 hF11 hM3 => ?_
    refine sq (v := (.tuple #[(.string ⟨A.toArray⟩), (.int .i64 0)])) hF11 (wantedS rfl) (run_mv rfl (hF11.ev 22 rfl)) rfl (by decide) fun a12 hF12 => ?_
    refine sq (v := (.string ⟨A.toArray⟩)) hF12 (wantedS rfl) (run_ext rfl (hF12.ev 20 rfl) rfl) rfl (by decide) fun a13 hF13 => ?_
    refine sq (v := (.int .i64 0)) hF13 (wantedS rfl) (run_ext rfl (hF13.ev 20 rfl) rfl) rfl (by decide) fun a14 hF14 => ?_
    refine sq (v := (.string ⟨A.toArray⟩)) hF14 (wantedS rfl) (run_as rfl (hF14.ev 23 rfl)) rfl (by decide) fun a15 hF15 => ?_
    refine sq (v := (.int .i64 0)) hF15 (wantedS rfl) (run_as rfl (hF15.ev 24 rfl)) rfl (by decide) fun a16 hF16 => ?_
    refine sqEnd ?_
    clear hF9 hF10 hF11 hF12 hF13 hF14 hF15 hM2
    refine nx ?_
    refine wp_seq ?_
    refine wp_region_lit ?_
    refine sq (v := u) hF16 (wantedS rfl) (run_mv rfl (hF16.ev 1 rfl)) rfl (by decide) fun a17 hF17 => ?_
    refine sqC (v := (.tuple #[(.string ⟨List.toArray []⟩), (.int .i64 ((makeS r).2))])) hF17 hM3 (wantedS rfl) (run_call rfl Try.func8 (by kernel_rfl) rfl (mapE1 (hF17.ev 26 rfl))) rfl (by decide) (by have h := pmake_any r u w3 (hU.below hM3.below) (by omega) (by omega); rw [makeS_err he2] at h; exact h) fun a18 w4 hb4 hF18 hM4 => ?_
    refine sq (v := (.tuple #[(.string ⟨List.toArray []⟩), (.int .i64 ((makeS r).2))])) hF18 (wantedS rfl) (run_mv rfl (hF18.ev 27 rfl)) rfl (by decide) fun a19 hF19 => ?_
    refine sq (v := (.string ⟨List.toArray []⟩)) hF19 (wantedS rfl) (run_ext rfl (hF19.ev 25 rfl) rfl) rfl (by decide) fun a20 hF20 => ?_
    refine sq (v := (.int .i64 ((makeS r).2))) hF20 (wantedS rfl) (run_ext rfl (hF20.ev 25 rfl) rfl) rfl (by decide) fun a21 hF21 => ?_
    refine sq (v := (.string ⟨List.toArray []⟩)) hF21 (wantedS rfl) (run_as rfl (hF21.ev 28 rfl)) rfl (by decide) fun a22 hF22 => ?_
    refine sq (v := (.int .i64 ((makeS r).2))) hF22 (wantedS rfl) (run_as rfl (hF22.ev 29 rfl)) rfl (by decide) fun a23 hF23 => ?_
    refine sqEnd ?_
    clear hF16 hF17 hF18 hF19 hF20 hF21 hF22 hM3
    refine nx ?_
    refine wp_seq ?_
    refine wp_seq ?_
    refine wp_region_lit ?_
    refine sq (v := (.int .i64 0)) hF23 (wantedS rfl) (run_mv rfl (hF23.ev 6 rfl)) rfl (by decide) fun a24 hF24 => ?_
    refine sq (v := (.bool false)) hF24 (wantedS rfl) (run_nei rfl (hF24.ev 30 rfl) rfl (bne_eq_false_iff_eq.2 (by omega))) rfl (by decide) fun a25 hF25 => ?_
    refine sq (v := (.bool false)) hF25 (wantedS rfl) (run_mv rfl (hF25.ev 31 rfl)) rfl (by decide) fun a26 hF26 => ?_
    refine sq (v := (.int .i64 ((makeS r).2))) hF26 (wantedG hF26 rfl rfl rfl rfl rfl) (run_mv rfl (hF26.ev 8 rfl)) rfl (by decide) fun a27 hF27 => ?_
    refine sq (v := (.bool true)) hF27 (wantedG hF27 rfl rfl rfl rfl rfl) (run_nei rfl (hF27.ev 33 rfl) rfl (bne_iff_ne.2 (by omega))) rfl (by decide) fun a28 hF28 => ?_
    refine sq (v := (.bool true)) hF28 (wantedS rfl) (run_pick rfl (hF28.ev 32 rfl) rfl (hF28.ev 34 rfl)) rfl (by decide) fun a29 hF29 => ?_
    refine sqEnd ?_
    clear hF23 hF24 hF25 hF26 hF27 hF28
    refine nx ?_
    refine wp_cond_true (hF29.ev 35 rfl) ?_
    refine wp_seq ?_
    refine wp_region_lit ?_
    refine sqC (v := (.bool true)) hF29 hM4 (wantedS rfl) (run_call rfl Try.func7 (by kernel_rfl) rfl (mapE0 )) rfl (by decide) (awake40_any w4) fun a30 w5 hb5 hF30 hM5 => ?_
    refine sq (v := (.bool true)) hF30 (wantedS rfl) (run_as rfl (hF30.ev 36 rfl)) rfl (by decide) fun a31 hF31 => ?_
    refine sqEnd ?_
    clear hF29 hF30 hM4
    refine nx ?_
    refine wp_ret ?_
    refine nxRet ?_
    exact ret1 hF31 rfl rfl ⟨rfl, hM5.below⟩
  obtain ⟨hmk2, hof2, _, _, _⟩ := ofS_make (Classical.byContradiction he2)
  obtain ⟨B, hB⟩ : ∃ B, bytesS r = B := ⟨_, rfl⟩
  rw [hB] at hmk2 hof2
  have hinj : A = B → l = r := fun e => by rw [e, hof2] at hof; injection hof with hof; exact hof.symm
  refine walk_enter Try.func3 rfl rfl rfl fun a0 hF0 => ?_
  have hM0 := Mem.new w
  refine wp_seq ?_
  refine wp_region_lit ?_
  refine sq (v := (.bool false)) hF0 (wantedS rfl) (run_as rfl rfl) rfl (by decide) fun a1 hF1 => ?_
  refine sqEnd ?_
  clear hF0
  refine nx ?_
  refine wp_seq ?_
  refine wp_seq ?_
  refine wp_region_lit ?_
  refine sq (v := v) hF1 (wantedS rfl) (run_mv rfl (hF1.ev 0 rfl)) rfl (by decide) fun a2 hF2 => ?_
  refine sqC (v := (.int .i64 (greatS l))) hF2 hM0 (wantedS rfl) (run_call rfl Try.func6 (by kernel_rfl) rfl (mapE1 (hF2.ev 11 rfl))) rfl (by decide) (rgreat_any l v w (hV.below hM0.below) hn) fun a3 w1 hb1 hF3 hM1 => ?_
  refine sq (v := (.bool false)) hF3 (wantedS rfl) (run_gtr rfl (hF3.ev 12 rfl) rfl (decide_eq_false (by omega))) rfl (by decide) fun a4 hF4 => ?_
  refine sq (v := (.bool false)) hF4 (wantedS rfl) (run_mv rfl (hF4.ev 13 rfl)) rfl (by decide) fun a5 hF5 => ?_
  refine sq (v := u) hF5 (wantedG hF5 rfl rfl rfl rfl rfl) (run_mv rfl (hF5.ev 1 rfl)) rfl (by decide) fun a6 hF6 => ?_
  refine sqC (v := (.int .i64 (greatS r))) hF6 hM1 (wantedG hF6 rfl rfl rfl rfl rfl) (run_call rfl Try.func6 (by kernel_rfl) rfl (mapE1 (hF6.ev 15 rfl))) rfl (by decide) (rgreat_any r u w1 (hU.below hM1.below) hn2) fun a7 w2 hb2 hF7 hM2 => ?_
  refine sq (v := (.bool false)) hF7 (wantedG hF7 rfl rfl rfl rfl rfl) (run_gtr rfl (hF7.ev 16 rfl) rfl (decide_eq_false (by omega))) rfl (by decide) fun a8 hF8 => ?_
  refine sq (v := (.bool false)) hF8 (wantedS rfl) (run_pick rfl (hF8.ev 14 rfl) rfl (hF8.ev 17 rfl)) rfl (by decide) fun a9 hF9 => ?_
  refine sqEnd ?_
  clear hF1 hF2 hF3 hF4 hF5 hF6 hF7 hF8 hM0 hM1
  refine nx ?_
  refine wp_cond_false (hF9.ev 18 rfl) ?_
  refine wp_skip ?_
  refine nx ?_
  refine wp_seq ?_
  refine wp_region_lit ?_
  refine sq (v := v) hF9 (wantedS rfl) (run_mv rfl (hF9.ev 0 rfl)) rfl (by decide) fun a10 hF10 => ?_
  refine sqC (v := (.tuple #[(.string ⟨A.toArray⟩), (.int .i64 0)])) hF10 hM2 (wantedS rfl) (run_call rfl Try.func8 (by kernel_rfl) rfl (mapE1 (hF10.ev 21 rfl))) rfl (by decide) (by have h := pmake_any l v w2 (hV.below hM2.below) (by omega) (by omega); rw [hmk] at h; exact h) fun a11 w3 hb3 hF11 hM3 => ?_
  refine sq (v := (.tuple #[(.string ⟨A.toArray⟩), (.int .i64 0)])) hF11 (wantedS rfl) (run_mv rfl (hF11.ev 22 rfl)) rfl (by decide) fun a12 hF12 => ?_
  refine sq (v := (.string ⟨A.toArray⟩)) hF12 (wantedS rfl) (run_ext rfl (hF12.ev 20 rfl) rfl) rfl (by decide) fun a13 hF13 => ?_
  refine sq (v := (.int .i64 0)) hF13 (wantedS rfl) (run_ext rfl (hF13.ev 20 rfl) rfl) rfl (by decide) fun a14 hF14 => ?_
  refine sq (v := (.string ⟨A.toArray⟩)) hF14 (wantedS rfl) (run_as rfl (hF14.ev 23 rfl)) rfl (by decide) fun a15 hF15 => ?_
  refine sq (v := (.int .i64 0)) hF15 (wantedS rfl) (run_as rfl (hF15.ev 24 rfl)) rfl (by decide) fun a16 hF16 => ?_
  refine sqEnd ?_
  clear hF9 hF10 hF11 hF12 hF13 hF14 hF15 hM2
  refine nx ?_
  refine wp_seq ?_
  refine wp_region_lit ?_
  refine sq (v := u) hF16 (wantedS rfl) (run_mv rfl (hF16.ev 1 rfl)) rfl (by decide) fun a17 hF17 => ?_
  refine sqC (v := (.tuple #[(.string ⟨B.toArray⟩), (.int .i64 0)])) hF17 hM3 (wantedS rfl) (run_call rfl Try.func8 (by kernel_rfl) rfl (mapE1 (hF17.ev 26 rfl))) rfl (by decide) (by have h := pmake_any r u w3 (hU.below hM3.below) (by omega) (by omega); rw [hmk2] at h; exact h) fun a18 w4 hb4 hF18 hM4 => ?_
  refine sq (v := (.tuple #[(.string ⟨B.toArray⟩), (.int .i64 0)])) hF18 (wantedS rfl) (run_mv rfl (hF18.ev 27 rfl)) rfl (by decide) fun a19 hF19 => ?_
  refine sq (v := (.string ⟨B.toArray⟩)) hF19 (wantedS rfl) (run_ext rfl (hF19.ev 25 rfl) rfl) rfl (by decide) fun a20 hF20 => ?_
  refine sq (v := (.int .i64 0)) hF20 (wantedS rfl) (run_ext rfl (hF20.ev 25 rfl) rfl) rfl (by decide) fun a21 hF21 => ?_
  refine sq (v := (.string ⟨B.toArray⟩)) hF21 (wantedS rfl) (run_as rfl (hF21.ev 28 rfl)) rfl (by decide) fun a22 hF22 => ?_
  refine sq (v := (.int .i64 0)) hF22 (wantedS rfl) (run_as rfl (hF22.ev 29 rfl)) rfl (by decide) fun a23 hF23 => ?_
  refine sqEnd ?_
  clear hF16 hF17 hF18 hF19 hF20 hF21 hF22 hM3
  refine nx ?_
  refine wp_seq ?_
  refine wp_seq ?_
  refine wp_region_lit ?_
  refine sq (v := (.int .i64 0)) hF23 (wantedS rfl) (run_mv rfl (hF23.ev 6 rfl)) rfl (by decide) fun a24 hF24 => ?_
  refine sq (v := (.bool false)) hF24 (wantedS rfl) (run_nei rfl (hF24.ev 30 rfl) rfl (bne_eq_false_iff_eq.2 (by omega))) rfl (by decide) fun a25 hF25 => ?_
  refine sq (v := (.bool false)) hF25 (wantedS rfl) (run_mv rfl (hF25.ev 31 rfl)) rfl (by decide) fun a26 hF26 => ?_
  refine sq (v := (.int .i64 0)) hF26 (wantedG hF26 rfl rfl rfl rfl rfl) (run_mv rfl (hF26.ev 8 rfl)) rfl (by decide) fun a27 hF27 => ?_
  refine sq (v := (.bool false)) hF27 (wantedG hF27 rfl rfl rfl rfl rfl) (run_nei rfl (hF27.ev 33 rfl) rfl (bne_eq_false_iff_eq.2 (by omega))) rfl (by decide) fun a28 hF28 => ?_
  refine sq (v := (.bool false)) hF28 (wantedS rfl) (run_pick rfl (hF28.ev 32 rfl) rfl (hF28.ev 34 rfl)) rfl (by decide) fun a29 hF29 => ?_
  refine sqEnd ?_
  clear hF23 hF24 hF25 hF26 hF27 hF28
  refine nx ?_
  refine wp_cond_false (hF29.ev 35 rfl) ?_
  refine wp_skip ?_
  refine nx ?_
  refine wp_seq ?_
  refine wp_region_lit ?_
  refine sq (v := v) hF29 (wantedS rfl) (run_mv rfl (hF29.ev 0 rfl)) rfl (by decide) fun a30 hF30 => ?_
  refine sq (v := (.int .i64 (l.length : Int))) hF30 (wantedS rfl) (run_lenS rfl (hF30.ev 37 rfl) (hV.below hM4.below) rfl Try.underlying22) rfl (by decide) fun a31 hF31 => ?_
  refine sq (v := u) hF31 (wantedS rfl) (run_mv rfl (hF31.ev 1 rfl)) rfl (by decide) fun a32 hF32 => ?_
  refine sq (v := (.int .i64 (r.length : Int))) hF32 (wantedS rfl) (run_lenS rfl (hF32.ev 39 rfl) (hU.below hM4.below) rfl Try.underlying22) rfl (by decide) fun a33 hF33 => ?_
  refine sq (v := (.bool (decide (l.length = r.length)))) hF33 (wantedS rfl) (run_eqi rfl (hF33.ev 38 rfl) (hF33.ev 40 rfl) (by rw [Bool.eq_iff_iff, beq_iff_eq, decide_eq_true_eq]; omega)) rfl (by decide) fun a34 hF34 => ?_
  refine sq (v := (.bool (decide (l.length = r.length)))) hF34 (wantedS rfl) (run_as rfl (hF34.ev 41 rfl)) rfl (by decide) fun a35 hF35 => ?_
  refine sqEnd ?_
  clear hF29 hF30 hF31 hF32 hF33 hF34
  refine nx ?_
  refine wp_seq ?_
  refine wp_seq ?_
  refine wp_region_lit ?_
  refine sq (v := (.int .i64 0)) hF35 (wantedS rfl) (run_as rfl rfl) rfl (by decide) fun a36 hF36 => ?_
  refine sqEnd ?_
  clear hF35
  refine nx ?_
  refine wp_block ?_
  refine wkLoop (fun m a w2 => ∃ (i : Nat) (b : Bool), m = l.length - i ∧ i ≤ l.length ∧ (b = true → l.length = r.length ∧ l.take i = r.take i) ∧ (b = false → l ≠ r) ∧ Fr a 68 [(0, v), (1, u), (5, .string ⟨A.toArray⟩), (7, .string ⟨B.toArray⟩), (9, .bool b), (10, .int .i64 (i : Int))] ∧ Mem w [] w2) l.length ⟨0, decide (l.length = r.length), rfl, Nat.zero_le _, fun h => ⟨of_decide_eq_true h, by simp⟩, fun h e => of_decide_eq_false h (by rw [e]), hF36.sub ⟨rfl, rfl, rfl, rfl, rfl, rfl, trivial⟩, hM4⟩ ?_
  rintro m0 a0 w1 ⟨i, b, rfl, hi, hyes, hno, hF0, hM0⟩
  cases b with
  | false =>
    have hne := hno rfl
    have hAB : (A == B) = false := beq_eq_false_iff_ne.2 fun e => hne (hinj e)
    refine wp_seq ?_
    refine wp_seq ?_
    refine wp_region_lit ?_
    refine sq (v := (.bool false)) hF0 (wantedS rfl) (run_mv rfl (hF0.ev 9 rfl)) rfl (by decide) fun a1 hF1 => ?_
    refine sq (v := (.bool false)) hF1 (wantedS rfl) (run_mv rfl (hF1.ev 42 rfl)) rfl (by decide) fun a2 hF2 => ?_
    refine sqSkip hF2 (unwantedG hF2 rfl rfl rfl rfl rfl) rfl (by decide) fun a3 hF3 => ?_
    refine sqSkip hF3 (unwantedG hF3 rfl rfl rfl rfl rfl) rfl (by decide) fun a4 hF4 => ?_
    refine sqSkip hF4 (unwantedG hF4 rfl rfl rfl rfl rfl) rfl (by decide) fun a5 hF5 => ?_
    refine sqSkip hF5 (unwantedG hF5 rfl rfl rfl rfl rfl) rfl (by decide) fun a6 hF6 => ?_
    refine sq (v := (.bool false)) hF6 (wantedS rfl) (run_pick rfl (hF6.ev 43 rfl) (hF6.ev 47 rfl) rfl) rfl (by decide) fun a7 hF7 => ?_
    refine sqEnd ?_
    clear hF0 hF1 hF2 hF3 hF4 hF5 hF6
    refine nx ?_
    refine wp_cond_false (hF7.ev 48 rfl) ?_
    refine wp_exit ?_
    refine nxExit ?_
    refine nxExit ?_
    refine bkHere ?_
    refine nx ?_
    refine wp_seq ?_
    refine wp_region_lit ?_
    refine sq (v := (.string ⟨A.toArray⟩)) hF7 (wantedS rfl) (run_mv rfl (hF7.ev 5 rfl)) rfl (by decide) fun a8 hF8 => ?_
    refine sq (v := (.string ⟨B.toArray⟩)) hF8 (wantedS rfl) (run_mv rfl (hF8.ev 7 rfl)) rfl (by decide) fun a9 hF9 => ?_
    refine sq (v := (.bool false)) hF9 (wantedS rfl) (run_eqs rfl (hF9.ev 60 rfl) (hF9.ev 61 rfl) hAB) rfl (by decide) fun a10 hF10 => ?_
    refine sq (v := (.bool false)) hF10 (wantedS rfl) (run_mv rfl (hF10.ev 9 rfl)) rfl (by decide) fun a11 hF11 => ?_
    refine sq (v := (.bool true)) hF11 (wantedS rfl) (run_eqb rfl (hF11.ev 62 rfl) (hF11.ev 63 rfl) Try.underlying4 (beq_self_eq_true _)) rfl (by decide) fun a12 hF12 => ?_
    refine sq (v := (.bool true)) hF12 (wantedS rfl) (run_mv rfl (hF12.ev 64 rfl)) rfl (by decide) fun a13 hF13 => ?_
    refine sqC (v := (.bool true)) hF13 hM0 (wantedG hF13 rfl rfl rfl rfl rfl) (run_call rfl Try.func7 (by kernel_rfl) rfl (mapE0 )) rfl (by decide) (awake40_any w1) fun a14 w2 hb2 hF14 hM1 => ?_
    refine sq (v := (.bool true)) hF14 (wantedS rfl) (run_pick rfl (hF14.ev 65 rfl) (hF14.ev 66 rfl) rfl) rfl (by decide) fun a15 hF15 => ?_
    refine sq (v := (.bool true)) hF15 (wantedS rfl) (run_as rfl (hF15.ev 67 rfl)) rfl (by decide) fun a16 hF16 => ?_
    refine sqEnd ?_
    clear hF7 hF8 hF9 hF10 hF11 hF12 hF13 hF14 hF15 hM0
    refine nx ?_
    refine wp_ret ?_
    exact ret1 hF16 rfl rfl ⟨rfl, hM1.below⟩
  | true =>
    obtain ⟨hll, htk⟩ := hyes rfl
    by_cases hlt : i < l.length
    · obtain ⟨x, hx⟩ : ∃ x, l[i]? = some x := ⟨l[i], by simp [hlt]⟩
      obtain ⟨y, hy⟩ : ∃ y, r[i]? = some y := ⟨r[i], by simp [show i < r.length by omega]⟩
      by_cases hxy : x = y
      · have hb : ((x.1, x.2) == (y.1, y.2)) = true := by rw [hxy]; simp
        refine wp_seq ?_
        refine wp_seq ?_
        refine wp_region_lit ?_
        refine sq (v := (.bool true)) hF0 (wantedS rfl) (run_mv rfl (hF0.ev 9 rfl)) rfl (by decide) fun a1 hF1 => ?_
        refine sq (v := (.bool true)) hF1 (wantedS rfl) (run_mv rfl (hF1.ev 42 rfl)) rfl (by decide) fun a2 hF2 => ?_
        refine sq (v := (.int .i64 (i : Int))) hF2 (wantedG hF2 rfl rfl rfl rfl rfl) (run_mv rfl (hF2.ev 10 rfl)) rfl (by decide) fun a3 hF3 => ?_
        refine sq (v := v) hF3 (wantedG hF3 rfl rfl rfl rfl rfl) (run_mv rfl (hF3.ev 0 rfl)) rfl (by decide) fun a4 hF4 => ?_
        refine sq (v := (.int .i64 (l.length : Int))) hF4 (wantedG hF4 rfl rfl rfl rfl rfl) (run_lenS rfl (hF4.ev 45 rfl) (hV.below hM0.below) rfl Try.underlying22) rfl (by decide) fun a5 hF5 => ?_
        refine sq (v := (.bool true)) hF5 (wantedG hF5 rfl rfl rfl rfl rfl) (run_lss rfl (hF5.ev 44 rfl) (hF5.ev 46 rfl) (decide_eq_true (by omega))) rfl (by decide) fun a6 hF6 => ?_
        refine sq (v := (.bool true)) hF6 (wantedS rfl) (run_pick rfl (hF6.ev 43 rfl) (hF6.ev 47 rfl) rfl) rfl (by decide) fun a7 hF7 => ?_
        refine sqEnd ?_
        clear hF0 hF1 hF2 hF3 hF4 hF5 hF6
        refine nx ?_
        refine wp_cond_true (hF7.ev 48 rfl) ?_
        refine wp_skip ?_
        refine nx ?_
        refine wp_seq ?_
        refine wp_block ?_
        obtain ⟨KL, hKL⟩ : ∃ KL, KL = [kval v, kval (.int .i64 (i : Int)), kval (slPtr v (i * 2)), kval (.agg #[.string ⟨x.1.toArray⟩, .string ⟨x.2.toArray⟩]), kval u, kval (.int .i64 (i : Int)), kval (slPtr u (i * 2)), kval (.agg #[.string ⟨y.1.toArray⟩, .string ⟨y.2.toArray⟩]), kval (.bool true), kval (.bool true)] := ⟨_, rfl⟩
        have K0 : KL.getD 0 kany = kval v := by rw [hKL]; rfl
        have K1 : KL.getD 1 kany = kval (.int .i64 (i : Int)) := by rw [hKL]; rfl
        have K2 : KL.getD 2 kany = kval (slPtr v (i * 2)) := by rw [hKL]; rfl
        have K3 : KL.getD 3 kany = kval (.agg #[.string ⟨x.1.toArray⟩, .string ⟨x.2.toArray⟩]) := by rw [hKL]; rfl
        have K4 : KL.getD 4 kany = kval u := by rw [hKL]; rfl
        have K5 : KL.getD 5 kany = kval (.int .i64 (i : Int)) := by rw [hKL]; rfl
        have K6 : KL.getD 6 kany = kval (slPtr u (i * 2)) := by rw [hKL]; rfl
        have K7 : KL.getD 7 kany = kval (.agg #[.string ⟨y.1.toArray⟩, .string ⟨y.2.toArray⟩]) := by rw [hKL]; rfl
        have K8 : KL.getD 8 kany = kval (.bool true) := by rw [hKL]; rfl
        have K9 : KL.getD 9 kany = kval (.bool true) := by rw [hKL]; rfl
        clear hKL
        refine wp_region_kd 68 (by kernel_rfl) (by kernel_rfl) (by kernel_rfl) hF7.size KL ?_ ?_
        · refine ⟨?_, ?_, ?_, ?_, ?_, ?_, ?_, ?_, ?_, ?_, trivial⟩
          · refine asks_mk fun a W hS hh hd => ⟨wanted_yes rfl, ?_⟩
            exact giv_run (run_mv rfl (eval_tmp (hh 0 _ rfl (hF7.at 0 rfl)))) K0
          · refine asks_mk fun a W hS hh hd => ⟨wanted_yes rfl, ?_⟩
            exact giv_run (run_mv rfl (eval_tmp (hh 10 _ rfl (hF7.at 10 rfl)))) K1
          · refine asks_mk fun a W hS hh hd => ⟨wanted_yes rfl, ?_⟩
            exact giv_run (run_atP (i := i) rfl (eval_tmp (hd.val (j := 0) (s := 51) (by kernel_rfl) K0)) (eval_tmp (hd.val (j := 1) (s := 52) (by kernel_rfl) K1)) rfl (hV.below (hM0.grow hS).below) (by omega) elBox.un (by kernel_rfl)) K2
          · refine asks_mk fun a W hS hh hd => ⟨wanted_yes rfl, ?_⟩
            exact giv_run (run_ldPS (ys := boxC x) rfl (eval_tmp (hd.val (j := 2) (s := 53) (by kernel_rfl) K2)) (hV.below (hM0.grow hS).below) (by omega) (fun j u hj => flat_at boxC_len hx j hj) (by kernel_rfl) (by kernel_rfl)) K3
          · refine asks_mk fun a W hS hh hd => ⟨wanted_yes rfl, ?_⟩
            exact giv_run (run_mv rfl (eval_tmp (hh 1 _ rfl (hF7.at 1 rfl)))) K4
          · refine asks_mk fun a W hS hh hd => ⟨wanted_yes rfl, ?_⟩
            exact giv_run (run_mv rfl (eval_tmp (hh 10 _ rfl (hF7.at 10 rfl)))) K5
          · refine asks_mk fun a W hS hh hd => ⟨wanted_yes rfl, ?_⟩
            exact giv_run (run_atP (i := i) rfl (eval_tmp (hd.val (j := 4) (s := 55) (by kernel_rfl) K4)) (eval_tmp (hd.val (j := 5) (s := 56) (by kernel_rfl) K5)) rfl (hU.below (hM0.grow hS).below) (by omega) elBox.un (by kernel_rfl)) K6
          · refine asks_mk fun a W hS hh hd => ⟨wanted_yes rfl, ?_⟩
            exact giv_run (run_ldPS (ys := boxC y) rfl (eval_tmp (hd.val (j := 6) (s := 57) (by kernel_rfl) K6)) (hU.below (hM0.grow hS).below) (by omega) (fun j u hj => flat_at boxC_len hy j hj) (by kernel_rfl) (by kernel_rfl)) K7
          · refine asks_mk fun a W hS hh hd => ⟨wanted_yes rfl, ?_⟩
            exact giv_run (run_eqBox hb rfl (eval_tmp (hd.val (j := 3) (s := 54) (by kernel_rfl) K3)) (eval_tmp (hd.val (j := 7) (s := 58) (by kernel_rfl) K7))) K8
          · refine asks_mk fun a W hS hh hd => ⟨wanted_yes rfl, ?_⟩
            exact giv_run (run_as rfl (eval_tmp (hd.val (j := 8) (s := 59) (by kernel_rfl) K8))) K9
        · intro a8 w2 hb2 hK
          have e0 := hK.val (i := 0) (s := 51) (by kernel_rfl) K0
          have e1 := hK.val (i := 1) (s := 52) (by kernel_rfl) K1
          have e2 := hK.val (i := 2) (s := 53) (by kernel_rfl) K2
          have e3 := hK.val (i := 3) (s := 54) (by kernel_rfl) K3
          have e4 := hK.val (i := 4) (s := 55) (by kernel_rfl) K4
          have e5 := hK.val (i := 5) (s := 56) (by kernel_rfl) K5
          have e6 := hK.val (i := 6) (s := 57) (by kernel_rfl) K6
          have e7 := hK.val (i := 7) (s := 58) (by kernel_rfl) K7
          have e8 := hK.val (i := 8) (s := 59) (by kernel_rfl) K8
          have e9 := hK.val (i := 9) (s := 9) (by kernel_rfl) K9
          have hF8 : Fr a8 68 [(0, v), (1, u), (5, (.string ⟨A.toArray⟩)), (7, (.string ⟨B.toArray⟩)), (9, (.bool true)), (10, (.int .i64 (i : Int))), (42, (.bool true)), (43, (.bool true)), (44, (.int .i64 (i : Int))), (45, v), (46, (.int .i64 (l.length : Int))), (47, (.bool true)), (48, (.bool true))] := (hK.fr hF7 [v, (.int .i64 (i : Int)), (slPtr v (i * 2)), (.agg #[.string ⟨x.1.toArray⟩, .string ⟨x.2.toArray⟩]), u, (.int .i64 (i : Int)), (slPtr u (i * 2)), (.agg #[.string ⟨y.1.toArray⟩, .string ⟨y.2.toArray⟩]), (.bool true), (.bool true)] ⟨e0, e1, e2, e3, e4, e5, e6, e7, e8, e9, trivial⟩).sub ⟨rfl, rfl, rfl, rfl, rfl, rfl, rfl, rfl, rfl, rfl, rfl, rfl, rfl, trivial⟩
          have hM1 := hM0.grow hb2
          clear hK K0 e0 K1 e1 K2 e2 K3 e3 K4 e4 K5 e5 K6 e6 K7 e7 K8 e8 K9 e9
          clear hF7 hM0
          refine bkEnd ?_
          refine nx ?_
          refine wp_region_lit ?_
          refine sq (v := (.int .i64 (i : Int))) hF8 (wantedS rfl) (run_mv rfl (hF8.ev 10 rfl)) rfl (by decide) fun a9 hF9 => ?_
          refine sq (v := (.int .i64 ((i + 1 : Nat) : Int))) hF9 (wantedS rfl) (run_add (r := ((i + 1 : Nat) : Int)) rfl (hF9.ev 49 rfl) rfl (by rw [IntKind.wrap_i64]; omega)) rfl (by decide) fun a10 hF10 => ?_
          refine sq (v := (.int .i64 ((i + 1 : Nat) : Int))) hF10 (wantedS rfl) (run_as rfl (hF10.ev 50 rfl)) rfl (by decide) fun a11 hF11 => ?_
          refine sqEnd ?_
          clear hF8 hF9 hF10
          refine nx ?_
          exact ⟨_, by omega, i + 1, true, rfl, by omega, (fun _ => ⟨hll, take_next hx hy hxy htk⟩), (fun h => by cases h), hF11.sub ⟨rfl, rfl, rfl, rfl, rfl, rfl, trivial⟩, hM1⟩
      · have hb : ((x.1, x.2) == (y.1, y.2)) = false := beq_eq_false_iff_ne.2 hxy
        refine wp_seq ?_
        refine wp_seq ?_
        refine wp_region_lit ?_
        refine sq (v := (.bool true)) hF0 (wantedS rfl) (run_mv rfl (hF0.ev 9 rfl)) rfl (by decide) fun a1 hF1 => ?_
        refine sq (v := (.bool true)) hF1 (wantedS rfl) (run_mv rfl (hF1.ev 42 rfl)) rfl (by decide) fun a2 hF2 => ?_
        refine sq (v := (.int .i64 (i : Int))) hF2 (wantedG hF2 rfl rfl rfl rfl rfl) (run_mv rfl (hF2.ev 10 rfl)) rfl (by decide) fun a3 hF3 => ?_
        refine sq (v := v) hF3 (wantedG hF3 rfl rfl rfl rfl rfl) (run_mv rfl (hF3.ev 0 rfl)) rfl (by decide) fun a4 hF4 => ?_
        refine sq (v := (.int .i64 (l.length : Int))) hF4 (wantedG hF4 rfl rfl rfl rfl rfl) (run_lenS rfl (hF4.ev 45 rfl) (hV.below hM0.below) rfl Try.underlying22) rfl (by decide) fun a5 hF5 => ?_
        refine sq (v := (.bool true)) hF5 (wantedG hF5 rfl rfl rfl rfl rfl) (run_lss rfl (hF5.ev 44 rfl) (hF5.ev 46 rfl) (decide_eq_true (by omega))) rfl (by decide) fun a6 hF6 => ?_
        refine sq (v := (.bool true)) hF6 (wantedS rfl) (run_pick rfl (hF6.ev 43 rfl) (hF6.ev 47 rfl) rfl) rfl (by decide) fun a7 hF7 => ?_
        refine sqEnd ?_
        clear hF0 hF1 hF2 hF3 hF4 hF5 hF6
        refine nx ?_
        refine wp_cond_true (hF7.ev 48 rfl) ?_
        refine wp_skip ?_
        refine nx ?_
        refine wp_seq ?_
        refine wp_block ?_
        obtain ⟨KL, hKL⟩ : ∃ KL, KL = [kval v, kval (.int .i64 (i : Int)), kval (slPtr v (i * 2)), kval (.agg #[.string ⟨x.1.toArray⟩, .string ⟨x.2.toArray⟩]), kval u, kval (.int .i64 (i : Int)), kval (slPtr u (i * 2)), kval (.agg #[.string ⟨y.1.toArray⟩, .string ⟨y.2.toArray⟩]), kval (.bool false), kval (.bool false)] := ⟨_, rfl⟩
        have K0 : KL.getD 0 kany = kval v := by rw [hKL]; rfl
        have K1 : KL.getD 1 kany = kval (.int .i64 (i : Int)) := by rw [hKL]; rfl
        have K2 : KL.getD 2 kany = kval (slPtr v (i * 2)) := by rw [hKL]; rfl
        have K3 : KL.getD 3 kany = kval (.agg #[.string ⟨x.1.toArray⟩, .string ⟨x.2.toArray⟩]) := by rw [hKL]; rfl
        have K4 : KL.getD 4 kany = kval u := by rw [hKL]; rfl
        have K5 : KL.getD 5 kany = kval (.int .i64 (i : Int)) := by rw [hKL]; rfl
        have K6 : KL.getD 6 kany = kval (slPtr u (i * 2)) := by rw [hKL]; rfl
        have K7 : KL.getD 7 kany = kval (.agg #[.string ⟨y.1.toArray⟩, .string ⟨y.2.toArray⟩]) := by rw [hKL]; rfl
        have K8 : KL.getD 8 kany = kval (.bool false) := by rw [hKL]; rfl
        have K9 : KL.getD 9 kany = kval (.bool false) := by rw [hKL]; rfl
        clear hKL
        refine wp_region_kd 68 (by kernel_rfl) (by kernel_rfl) (by kernel_rfl) hF7.size KL ?_ ?_
        · refine ⟨?_, ?_, ?_, ?_, ?_, ?_, ?_, ?_, ?_, ?_, trivial⟩
          · refine asks_mk fun a W hS hh hd => ⟨wanted_yes rfl, ?_⟩
            exact giv_run (run_mv rfl (eval_tmp (hh 0 _ rfl (hF7.at 0 rfl)))) K0
          · refine asks_mk fun a W hS hh hd => ⟨wanted_yes rfl, ?_⟩
            exact giv_run (run_mv rfl (eval_tmp (hh 10 _ rfl (hF7.at 10 rfl)))) K1
          · refine asks_mk fun a W hS hh hd => ⟨wanted_yes rfl, ?_⟩
            exact giv_run (run_atP (i := i) rfl (eval_tmp (hd.val (j := 0) (s := 51) (by kernel_rfl) K0)) (eval_tmp (hd.val (j := 1) (s := 52) (by kernel_rfl) K1)) rfl (hV.below (hM0.grow hS).below) (by omega) elBox.un (by kernel_rfl)) K2
          · refine asks_mk fun a W hS hh hd => ⟨wanted_yes rfl, ?_⟩
            exact giv_run (run_ldPS (ys := boxC x) rfl (eval_tmp (hd.val (j := 2) (s := 53) (by kernel_rfl) K2)) (hV.below (hM0.grow hS).below) (by omega) (fun j u hj => flat_at boxC_len hx j hj) (by kernel_rfl) (by kernel_rfl)) K3
          · refine asks_mk fun a W hS hh hd => ⟨wanted_yes rfl, ?_⟩
            exact giv_run (run_mv rfl (eval_tmp (hh 1 _ rfl (hF7.at 1 rfl)))) K4
          · refine asks_mk fun a W hS hh hd => ⟨wanted_yes rfl, ?_⟩
            exact giv_run (run_mv rfl (eval_tmp (hh 10 _ rfl (hF7.at 10 rfl)))) K5
          · refine asks_mk fun a W hS hh hd => ⟨wanted_yes rfl, ?_⟩
            exact giv_run (run_atP (i := i) rfl (eval_tmp (hd.val (j := 4) (s := 55) (by kernel_rfl) K4)) (eval_tmp (hd.val (j := 5) (s := 56) (by kernel_rfl) K5)) rfl (hU.below (hM0.grow hS).below) (by omega) elBox.un (by kernel_rfl)) K6
          · refine asks_mk fun a W hS hh hd => ⟨wanted_yes rfl, ?_⟩
            exact giv_run (run_ldPS (ys := boxC y) rfl (eval_tmp (hd.val (j := 6) (s := 57) (by kernel_rfl) K6)) (hU.below (hM0.grow hS).below) (by omega) (fun j u hj => flat_at boxC_len hy j hj) (by kernel_rfl) (by kernel_rfl)) K7
          · refine asks_mk fun a W hS hh hd => ⟨wanted_yes rfl, ?_⟩
            exact giv_run (run_eqBox hb rfl (eval_tmp (hd.val (j := 3) (s := 54) (by kernel_rfl) K3)) (eval_tmp (hd.val (j := 7) (s := 58) (by kernel_rfl) K7))) K8
          · refine asks_mk fun a W hS hh hd => ⟨wanted_yes rfl, ?_⟩
            exact giv_run (run_as rfl (eval_tmp (hd.val (j := 8) (s := 59) (by kernel_rfl) K8))) K9
        · intro a8 w2 hb2 hK
          have e0 := hK.val (i := 0) (s := 51) (by kernel_rfl) K0
          have e1 := hK.val (i := 1) (s := 52) (by kernel_rfl) K1
          have e2 := hK.val (i := 2) (s := 53) (by kernel_rfl) K2
          have e3 := hK.val (i := 3) (s := 54) (by kernel_rfl) K3
          have e4 := hK.val (i := 4) (s := 55) (by kernel_rfl) K4
          have e5 := hK.val (i := 5) (s := 56) (by kernel_rfl) K5
          have e6 := hK.val (i := 6) (s := 57) (by kernel_rfl) K6
          have e7 := hK.val (i := 7) (s := 58) (by kernel_rfl) K7
          have e8 := hK.val (i := 8) (s := 59) (by kernel_rfl) K8
          have e9 := hK.val (i := 9) (s := 9) (by kernel_rfl) K9
          have hF8 : Fr a8 68 [(0, v), (1, u), (5, (.string ⟨A.toArray⟩)), (7, (.string ⟨B.toArray⟩)), (9, (.bool false)), (10, (.int .i64 (i : Int))), (42, (.bool true)), (43, (.bool true)), (44, (.int .i64 (i : Int))), (45, v), (46, (.int .i64 (l.length : Int))), (47, (.bool true)), (48, (.bool true))] := (hK.fr hF7 [v, (.int .i64 (i : Int)), (slPtr v (i * 2)), (.agg #[.string ⟨x.1.toArray⟩, .string ⟨x.2.toArray⟩]), u, (.int .i64 (i : Int)), (slPtr u (i * 2)), (.agg #[.string ⟨y.1.toArray⟩, .string ⟨y.2.toArray⟩]), (.bool false), (.bool false)] ⟨e0, e1, e2, e3, e4, e5, e6, e7, e8, e9, trivial⟩).sub ⟨rfl, rfl, rfl, rfl, rfl, rfl, rfl, rfl, rfl, rfl, rfl, rfl, rfl, trivial⟩
          have hM1 := hM0.grow hb2
          clear hK K0 e0 K1 e1 K2 e2 K3 e3 K4 e4 K5 e5 K6 e6 K7 e7 K8 e8 K9 e9
          clear hF7 hM0
          refine bkEnd ?_
          refine nx ?_
          refine wp_region_lit ?_
          refine sq (v := (.int .i64 (i : Int))) hF8 (wantedS rfl) (run_mv rfl (hF8.ev 10 rfl)) rfl (by decide) fun a9 hF9 => ?_
          refine sq (v := (.int .i64 ((i + 1 : Nat) : Int))) hF9 (wantedS rfl) (run_add (r := ((i + 1 : Nat) : Int)) rfl (hF9.ev 49 rfl) rfl (by rw [IntKind.wrap_i64]; omega)) rfl (by decide) fun a10 hF10 => ?_
          refine sq (v := (.int .i64 ((i + 1 : Nat) : Int))) hF10 (wantedS rfl) (run_as rfl (hF10.ev 50 rfl)) rfl (by decide) fun a11 hF11 => ?_
          refine sqEnd ?_
          clear hF8 hF9 hF10
          refine nx ?_
          exact ⟨_, by omega, i + 1, false, rfl, by omega, (fun h => by cases h), (fun _ e => hxy (by rw [e, hy] at hx; injection hx with hx; exact hx.symm)), hF11.sub ⟨rfl, rfl, rfl, rfl, rfl, rfl, trivial⟩, hM1⟩
    · have hie : i = l.length := by omega
      have hlr : l = r := by rw [hie, List.take_length, hll, List.take_length] at htk; exact htk
      have hAB : (A == B) = true := beq_iff_eq.2 (by rw [← hA, ← hB, hlr])
      refine wp_seq ?_
      refine wp_seq ?_
      refine wp_region_lit ?_
      refine sq (v := (.bool true)) hF0 (wantedS rfl) (run_mv rfl (hF0.ev 9 rfl)) rfl (by decide) fun a1 hF1 => ?_
      refine sq (v := (.bool true)) hF1 (wantedS rfl) (run_mv rfl (hF1.ev 42 rfl)) rfl (by decide) fun a2 hF2 => ?_
      refine sq (v := (.int .i64 (i : Int))) hF2 (wantedG hF2 rfl rfl rfl rfl rfl) (run_mv rfl (hF2.ev 10 rfl)) rfl (by decide) fun a3 hF3 => ?_
      refine sq (v := v) hF3 (wantedG hF3 rfl rfl rfl rfl rfl) (run_mv rfl (hF3.ev 0 rfl)) rfl (by decide) fun a4 hF4 => ?_
      refine sq (v := (.int .i64 (l.length : Int))) hF4 (wantedG hF4 rfl rfl rfl rfl rfl) (run_lenS rfl (hF4.ev 45 rfl) (hV.below hM0.below) rfl Try.underlying22) rfl (by decide) fun a5 hF5 => ?_
      refine sq (v := (.bool false)) hF5 (wantedG hF5 rfl rfl rfl rfl rfl) (run_lss rfl (hF5.ev 44 rfl) (hF5.ev 46 rfl) (decide_eq_false (by omega))) rfl (by decide) fun a6 hF6 => ?_
      refine sq (v := (.bool false)) hF6 (wantedS rfl) (run_pick rfl (hF6.ev 43 rfl) (hF6.ev 47 rfl) rfl) rfl (by decide) fun a7 hF7 => ?_
      refine sqEnd ?_
      clear hF0 hF1 hF2 hF3 hF4 hF5 hF6
      refine nx ?_
      refine wp_cond_false (hF7.ev 48 rfl) ?_
      refine wp_exit ?_
      refine nxExit ?_
      refine nxExit ?_
      refine bkHere ?_
      refine nx ?_
      refine wp_seq ?_
      refine wp_region_lit ?_
      refine sq (v := (.string ⟨A.toArray⟩)) hF7 (wantedS rfl) (run_mv rfl (hF7.ev 5 rfl)) rfl (by decide) fun a8 hF8 => ?_
      refine sq (v := (.string ⟨B.toArray⟩)) hF8 (wantedS rfl) (run_mv rfl (hF8.ev 7 rfl)) rfl (by decide) fun a9 hF9 => ?_
      refine sq (v := (.bool true)) hF9 (wantedS rfl) (run_eqs rfl (hF9.ev 60 rfl) (hF9.ev 61 rfl) hAB) rfl (by decide) fun a10 hF10 => ?_
      refine sq (v := (.bool true)) hF10 (wantedS rfl) (run_mv rfl (hF10.ev 9 rfl)) rfl (by decide) fun a11 hF11 => ?_
      refine sq (v := (.bool true)) hF11 (wantedS rfl) (run_eqb rfl (hF11.ev 62 rfl) (hF11.ev 63 rfl) Try.underlying4 (beq_self_eq_true _)) rfl (by decide) fun a12 hF12 => ?_
      refine sq (v := (.bool true)) hF12 (wantedS rfl) (run_mv rfl (hF12.ev 64 rfl)) rfl (by decide) fun a13 hF13 => ?_
      refine sqC (v := (.bool true)) hF13 hM0 (wantedG hF13 rfl rfl rfl rfl rfl) (run_call rfl Try.func7 (by kernel_rfl) rfl (mapE0 )) rfl (by decide) (awake40_any w1) fun a14 w2 hb2 hF14 hM1 => ?_
      refine sq (v := (.bool true)) hF14 (wantedS rfl) (run_pick rfl (hF14.ev 65 rfl) (hF14.ev 66 rfl) rfl) rfl (by decide) fun a15 hF15 => ?_
      refine sq (v := (.bool true)) hF15 (wantedS rfl) (run_as rfl (hF15.ev 67 rfl)) rfl (by decide) fun a16 hF16 => ?_
      refine sqEnd ?_
      clear hF7 hF8 hF9 hF10 hF11 hF12 hF13 hF14 hF15 hM0
      refine nx ?_
      refine wp_ret ?_
      exact ret1 hF16 rfl rfl ⟨rfl, hM1.below⟩
end Go.Proofs.Ytnkklogkjnfjgaa
