/- The walk of the law PackMakes. Printed by gen_pack8.py. -/
import Derived.Test.YtnkklogkjnfjgaaDoorPackN
namespace Go.Proofs.YtnkklogkjnfjgaaDoor
open Go.RowKit

theorem makeS_len (l : List Bx) : (makeS l).1.length ≤ 65536 := by
  unfold makeS
  split
  · simp
  · split
    · simp
    · split
      · simp
      · simp only; omega
set_option maxRecDepth 100000 in
set_option maxHeartbeats 1000000 in
theorem lawMakes_any (l : List Bx) (v : Value) (w : World) (HG : Glob w) (hV : Sl w v 2 l.length (l.flatMap boxC)) (hn : l.length ≤ maxLen) : Calls Tryd.prog 10 #[v] w fun e w' => e = .returned (.bool true) ∧ Below w.heap.size w w' := by
  rcases great_01 l with hg | hg
  · skip
    refine walk_enter Tryd.func10 rfl rfl rfl fun a0 hF0 => ?_
    have hM0 := Mem.new w
    refine wp_seq ?_
    refine wp_region_lit ?_
    refine sq (v := (.bool false)) hF0 (wantedS rfl) (run_as rfl rfl) rfl (by decide) fun a1 hF1 => ?_
    refine sqEnd ?_
    clear hF0
    refine nx ?_
    refine wp_seq ?_
    refine wp_seq ?_
    refine wp_region_lit ?_
    refine sq (v := v) hF1 (wantedS rfl) (run_mv rfl (hF1.ev 0 rfl)) rfl (by decide) fun a2 hF2 => ?_
    refine sqC (v := (.int .i64 (greatS l))) hF2 hM0 (wantedS rfl) (run_call rfl Tryd.func21 (by kernel_rfl) rfl (mapE1 (hF2.ev 7 rfl))) rfl (by decide) (rgreat_any l v w (hV.below hM0.below) hn) fun a3 w1 hb1 hF3 hM1 => ?_
    refine sq (v := (.bool true)) hF3 (wantedS rfl) (run_gtr rfl (hF3.ev 8 rfl) rfl (decide_eq_true (by omega))) rfl (by decide) fun a4 hF4 => ?_
    refine sqEnd ?_
    clear hF1 hF2 hF3 hM0
    refine nx ?_
    refine wp_cond_true (hF4.ev 9 rfl) ?_
    refine wp_seq ?_
    refine wp_region_lit ?_
    refine sqC (v := (.bool true)) hF4 hM1 (wantedS rfl) (run_call rfl Tryd.func22 (by kernel_rfl) rfl (mapE0 )) rfl (by decide) (awake40_any w1) fun a5 w2 hb2 hF5 hM2 => ?_
    refine sq (v := (.bool true)) hF5 (wantedS rfl) (run_as rfl (hF5.ev 10 rfl)) rfl (by decide) fun a6 hF6 => ?_
    refine sqEnd ?_
    clear hF4 hF5 hM1
    refine nx ?_
    refine wp_ret ?_
    refine nxRet ?_
    exact ret1 hF6 rfl rfl ⟨rfl, hM2.below⟩
  · obtain ⟨h12, hfl⟩ := great_ok hg
    have hml := makeS_len l
    refine walk_enter Tryd.func10 rfl rfl rfl fun a0 hF0 => ?_
    have hM0 := Mem.new w
    refine wp_seq ?_
    refine wp_region_lit ?_
    refine sq (v := (.bool false)) hF0 (wantedS rfl) (run_as rfl rfl) rfl (by decide) fun a1 hF1 => ?_
    refine sqEnd ?_
    clear hF0
    refine nx ?_
    refine wp_seq ?_
    refine wp_seq ?_
    refine wp_region_lit ?_
    refine sq (v := v) hF1 (wantedS rfl) (run_mv rfl (hF1.ev 0 rfl)) rfl (by decide) fun a2 hF2 => ?_
    refine sqC (v := (.int .i64 (greatS l))) hF2 hM0 (wantedS rfl) (run_call rfl Tryd.func21 (by kernel_rfl) rfl (mapE1 (hF2.ev 7 rfl))) rfl (by decide) (rgreat_any l v w (hV.below hM0.below) hn) fun a3 w1 hb1 hF3 hM1 => ?_
    refine sq (v := (.bool false)) hF3 (wantedS rfl) (run_gtr rfl (hF3.ev 8 rfl) rfl (decide_eq_false (by omega))) rfl (by decide) fun a4 hF4 => ?_
    refine sqEnd ?_
    clear hF1 hF2 hF3 hM0
    refine nx ?_
    refine wp_cond_false (hF4.ev 9 rfl) ?_
    refine wp_skip ?_
    refine nx ?_
    refine wp_seq ?_
    refine wp_region_lit ?_
    refine sq (v := v) hF4 (wantedS rfl) (run_mv rfl (hF4.ev 0 rfl)) rfl (by decide) fun a5 hF5 => ?_
    refine sqC (v := (.tuple #[(.string ⟨((makeS l).1).toArray⟩), (.int .i64 ((makeS l).2))])) hF5 hM1 (wantedS rfl) (run_call rfl Tryd.func23 (by kernel_rfl) rfl (mapE1 (hF5.ev 12 rfl))) rfl (by decide) (pmake_any l v w1 (hV.below hM1.below) (by omega) (by omega)) fun a6 w2 hb2 hF6 hM2 => ?_
    refine sq (v := (.tuple #[(.string ⟨((makeS l).1).toArray⟩), (.int .i64 ((makeS l).2))])) hF6 (wantedS rfl) (run_mv rfl (hF6.ev 13 rfl)) rfl (by decide) fun a7 hF7 => ?_
    refine sq (v := (.string ⟨((makeS l).1).toArray⟩)) hF7 (wantedS rfl) (run_ext rfl (hF7.ev 11 rfl) rfl) rfl (by decide) fun a8 hF8 => ?_
    refine sq (v := (.int .i64 ((makeS l).2))) hF8 (wantedS rfl) (run_ext rfl (hF8.ev 11 rfl) rfl) rfl (by decide) fun a9 hF9 => ?_
    refine sq (v := (.string ⟨((makeS l).1).toArray⟩)) hF9 (wantedS rfl) (run_as rfl (hF9.ev 14 rfl)) rfl (by decide) fun a10 hF10 => ?_
    refine sq (v := (.int .i64 ((makeS l).2))) hF10 (wantedS rfl) (run_as rfl (hF10.ev 15 rfl)) rfl (by decide) fun a11 hF11 => ?_
    refine sqEnd ?_
    clear hF4 hF5 hF6 hF7 hF8 hF9 hF10 hM1
    refine nx ?_
    refine wp_seq ?_
    refine wp_region_lit ?_
    refine sq (v := v) hF11 (wantedS rfl) (run_mv rfl (hF11.ev 0 rfl)) rfl (by decide) fun a12 hF12 => ?_
    refine sqC (v := (.tuple #[(.string ⟨((makeS l).1).toArray⟩), (.int .i64 ((makeS l).2))])) hF12 hM2 (wantedS rfl) (run_call rfl Tryd.func24 (by kernel_rfl) rfl (mapE1 (hF12.ev 17 rfl))) rfl (by decide) (rmake_any l v w2 (hV.below hM2.below) (by omega) (by omega)) fun a13 w3 hb3 hF13 hM3 => ?_
    refine sq (v := (.tuple #[(.string ⟨((makeS l).1).toArray⟩), (.int .i64 ((makeS l).2))])) hF13 (wantedS rfl) (run_mv rfl (hF13.ev 18 rfl)) rfl (by decide) fun a14 hF14 => ?_
    refine sq (v := (.string ⟨((makeS l).1).toArray⟩)) hF14 (wantedS rfl) (run_ext rfl (hF14.ev 16 rfl) rfl) rfl (by decide) fun a15 hF15 => ?_
    refine sq (v := (.int .i64 ((makeS l).2))) hF15 (wantedS rfl) (run_ext rfl (hF15.ev 16 rfl) rfl) rfl (by decide) fun a16 hF16 => ?_
    refine sq (v := (.string ⟨((makeS l).1).toArray⟩)) hF16 (wantedS rfl) (run_as rfl (hF16.ev 19 rfl)) rfl (by decide) fun a17 hF17 => ?_
    refine sq (v := (.int .i64 ((makeS l).2))) hF17 (wantedS rfl) (run_as rfl (hF17.ev 20 rfl)) rfl (by decide) fun a18 hF18 => ?_
    refine sqEnd ?_
    clear hF11 hF12 hF13 hF14 hF15 hF16 hF17 hM2
    refine nx ?_
    refine wp_seq ?_
    refine wp_region_lit ?_
    refine sq (v := (.string ⟨((makeS l).1).toArray⟩)) hF18 (wantedS rfl) (run_mv rfl (hF18.ev 3 rfl)) rfl (by decide) fun a19 hF19 => ?_
    refine sq (v := (.string ⟨((makeS l).1).toArray⟩)) hF19 (wantedS rfl) (run_mv rfl (hF19.ev 5 rfl)) rfl (by decide) fun a20 hF20 => ?_
    refine sq (v := (.bool true)) hF20 (wantedS rfl) (run_eqs rfl (hF20.ev 21 rfl) (hF20.ev 22 rfl) (beq_self_eq_true _)) rfl (by decide) fun a21 hF21 => ?_
    refine sq (v := (.bool true)) hF21 (wantedS rfl) (run_mv rfl (hF21.ev 23 rfl)) rfl (by decide) fun a22 hF22 => ?_
    refine sq (v := (.int .i64 ((makeS l).2))) hF22 (wantedG hF22 rfl rfl rfl rfl rfl) (run_mv rfl (hF22.ev 4 rfl)) rfl (by decide) fun a23 hF23 => ?_
    refine sq (v := (.int .i64 ((makeS l).2))) hF23 (wantedG hF23 rfl rfl rfl rfl rfl) (run_mv rfl (hF23.ev 6 rfl)) rfl (by decide) fun a24 hF24 => ?_
    refine sq (v := (.bool true)) hF24 (wantedG hF24 rfl rfl rfl rfl rfl) (run_eqi rfl (hF24.ev 25 rfl) (hF24.ev 26 rfl) (beq_self_eq_true _)) rfl (by decide) fun a25 hF25 => ?_
    refine sq (v := (.bool true)) hF25 (wantedS rfl) (run_pick rfl (hF25.ev 24 rfl) (hF25.ev 27 rfl) rfl) rfl (by decide) fun a26 hF26 => ?_
    refine sq (v := (.bool true)) hF26 (wantedS rfl) (run_mv rfl (hF26.ev 28 rfl)) rfl (by decide) fun a27 hF27 => ?_
    refine sq (v := (.string ⟨((makeS l).1).toArray⟩)) hF27 (wantedG hF27 rfl rfl rfl rfl rfl) (run_mv rfl (hF27.ev 3 rfl)) rfl (by decide) fun a28 hF28 => ?_
    refine sqC (v := (.string ⟨(nameS ((makeS l).1)).toArray⟩)) hF28 hM3 (wantedG hF28 rfl rfl rfl rfl rfl) (run_call rfl Tryd.func25 (by kernel_rfl) rfl (mapE1 (hF28.ev 30 rfl))) rfl (by decide) (pname_any ((makeS l).1) w3 (HG.below hM3.below) (by omega)) fun a29 w4 hb4 hF29 hM4 => ?_
    refine sq (v := (.string ⟨((makeS l).1).toArray⟩)) hF29 (wantedG hF29 rfl rfl rfl rfl rfl) (run_mv rfl (hF29.ev 3 rfl)) rfl (by decide) fun a30 hF30 => ?_
    refine sqC (v := (.string ⟨(nameS ((makeS l).1)).toArray⟩)) hF30 hM4 (wantedG hF30 rfl rfl rfl rfl rfl) (run_call rfl Tryd.func26 (by kernel_rfl) rfl (mapE1 (hF30.ev 32 rfl))) rfl (by decide) (rname_any ((makeS l).1) w4 (by omega)) fun a31 w5 hb5 hF31 hM5 => ?_
    refine sq (v := (.bool true)) hF31 (wantedG hF31 rfl rfl rfl rfl rfl) (run_eqs rfl (hF31.ev 31 rfl) (hF31.ev 33 rfl) (beq_self_eq_true _)) rfl (by decide) fun a32 hF32 => ?_
    refine sq (v := (.bool true)) hF32 (wantedS rfl) (run_pick rfl (hF32.ev 29 rfl) (hF32.ev 34 rfl) rfl) rfl (by decide) fun a33 hF33 => ?_
    refine sq (v := (.bool true)) hF33 (wantedS rfl) (run_mv rfl (hF33.ev 35 rfl)) rfl (by decide) fun a34 hF34 => ?_
    refine sqC (v := (.bool true)) hF34 hM5 (wantedG hF34 rfl rfl rfl rfl rfl) (run_call rfl Tryd.func22 (by kernel_rfl) rfl (mapE0 )) rfl (by decide) (awake40_any w5) fun a35 w6 hb6 hF35 hM6 => ?_
    refine sq (v := (.bool true)) hF35 (wantedS rfl) (run_pick rfl (hF35.ev 36 rfl) (hF35.ev 37 rfl) rfl) rfl (by decide) fun a36 hF36 => ?_
    refine sq (v := (.bool true)) hF36 (wantedS rfl) (run_as rfl (hF36.ev 38 rfl)) rfl (by decide) fun a37 hF37 => ?_
    refine sqEnd ?_
    clear hF18 hF19 hF20 hF21 hF22 hF23 hF24 hF25 hF26 hF27 hF28 hF29 hF30 hF31 hF32 hF33 hF34 hF35 hF36 hM3 hM4 hM5
    refine nx ?_
    refine wp_ret ?_
    exact ret1 hF37 rfl rfl ⟨rfl, hM6.below⟩
end Go.Proofs.YtnkklogkjnfjgaaDoor
