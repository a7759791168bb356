/- The walk of the law SessionFar. Printed by gen_ses5.py. -/
import Derived.Test.YtioioibcldgknaaDoorSes5
namespace Go.Proofs.YtioioibcldgknaaDoor
open Go.RowKit

attribute [local simp] xorS_len tagS_len keyedS_len nonceS_len
set_option maxRecDepth 100000 in
set_option maxHeartbeats 1000000 in
theorem lawSFar_any (c : Ch) (b : UInt8) (w : World) (HG : Glob w) (hLc : c.k.length = 32) (hcn : c.n < 2 ^ 64) : Calls Tryd.prog 5 #[.agg (chA c), .int .u8 (b.toNat : Int)] w fun e w' => e = .returned (.bool true) ∧ Below w.heap.size w w' := by
  by_cases h1 : 100 < c.m.length
  · skip
    refine walk_enter Tryd.func5 rfl rfl rfl fun a0 hF0 => ?_
    have hM0 := Mem.new w
    refine wp_seq ?_
    refine wp_region_lit ?_
    refine sqNew (cs := (chA c)) (t := 26) hF0 hM0 (wantedS rfl) (run_box rfl (hF0.ev 0 rfl)) rfl (by decide) fun g0 a1 w1 hgg0 hb1 hF1 hM1 => ?_
    refine sq (v := (.bool false)) hF1 (wantedS rfl) (run_as rfl rfl) rfl (by decide) fun a2 hF2 => ?_
    refine sqEnd ?_
    clear hF0 hF1 hM0
    refine nx ?_
    refine wp_seq ?_
    refine wp_seq ?_
    refine wp_region_lit ?_
    refine sq (v := (.pointer (some ⟨g0, 0, none⟩))) hF2 (wantedS rfl) (run_fldA (m := 1) (s := 0) rfl (hF2.ev 2 rfl) Tryd.underlying26 rfl rfl (by kernel_rfl) (by decide)) rfl (by decide) fun a3 hF3 => ?_
    refine sq (v := (.string ⟨c.m.toArray⟩)) hF3 (wantedS rfl) (run_ldF rfl (hF3.ev 12 rfl) (hM1.at 0 rfl) rfl (by kernel_rfl)) rfl (by decide) fun a4 hF4 => ?_
    refine sq (v := (.int .i64 (c.m.length : Int))) hF4 (wantedS rfl) (run_len rfl (hF4.ev 13 rfl) rfl Tryd.underlying9) rfl (by decide) fun a5 hF5 => ?_
    refine sq (v := (.bool true)) hF5 (wantedS rfl) (run_gtr rfl (hF5.ev 14 rfl) rfl (decide_eq_true (by omega))) rfl (by decide) fun a6 hF6 => ?_
    refine sq (v := (.bool true)) hF6 (wantedS rfl) (run_mv rfl (hF6.ev 15 rfl)) rfl (by decide) fun a7 hF7 => ?_
    refine sqSkip hF7 (unwantedG hF7 rfl rfl rfl rfl rfl) rfl (by decide) fun a8 hF8 => ?_
    refine sqSkip hF8 (unwantedG hF8 rfl rfl rfl rfl rfl) rfl (by decide) fun a9 hF9 => ?_
    refine sqSkip hF9 (unwantedG hF9 rfl rfl rfl rfl rfl) rfl (by decide) fun a10 hF10 => ?_
    refine sq (v := (.bool true)) hF10 (wantedS rfl) (run_pick rfl (hF10.ev 16 rfl) rfl (hF10.ev 19 rfl)) rfl (by decide) fun a11 hF11 => ?_
    refine sqEnd ?_
    clear hF2 hF3 hF4 hF5 hF6 hF7 hF8 hF9 hF10
    refine nx ?_
    refine wp_cond_true (hF11.ev 20 rfl) ?_
    refine wp_seq ?_
    refine wp_region_lit ?_
    refine sqC (v := (.bool true)) hF11 hM1 (wantedS rfl) (run_call rfl Tryd.func11 (by kernel_rfl) rfl (mapE0 )) rfl (by decide) (sfix_any w1 (HG.below hM1.below)) fun a12 w2 hb2 hF12 hM2 => ?_
    refine sq (v := (.bool true)) hF12 (wantedS rfl) (run_as rfl (hF12.ev 21 rfl)) rfl (by decide) fun a13 hF13 => ?_
    refine sqEnd ?_
    clear hF11 hF12 hM1
    refine nx ?_
    refine wp_ret ?_
    refine nxRet ?_
    exact ret1 hF13 rfl rfl ⟨rfl, hM2.below⟩
  by_cases h2 : 1152921504606846976 < c.n
  · skip
    refine walk_enter Tryd.func5 rfl rfl rfl fun a0 hF0 => ?_
    have hM0 := Mem.new w
    refine wp_seq ?_
    refine wp_region_lit ?_
    refine sqNew (cs := (chA c)) (t := 26) hF0 hM0 (wantedS rfl) (run_box rfl (hF0.ev 0 rfl)) rfl (by decide) fun g0 a1 w1 hgg0 hb1 hF1 hM1 => ?_
    refine sq (v := (.bool false)) hF1 (wantedS rfl) (run_as rfl rfl) rfl (by decide) fun a2 hF2 => ?_
    refine sqEnd ?_
    clear hF0 hF1 hM0
    refine nx ?_
    refine wp_seq ?_
    refine wp_seq ?_
    refine wp_region_lit ?_
    refine sq (v := (.pointer (some ⟨g0, 0, none⟩))) hF2 (wantedS rfl) (run_fldA (m := 1) (s := 0) rfl (hF2.ev 2 rfl) Tryd.underlying26 rfl rfl (by kernel_rfl) (by decide)) rfl (by decide) fun a3 hF3 => ?_
    refine sq (v := (.string ⟨c.m.toArray⟩)) hF3 (wantedS rfl) (run_ldF rfl (hF3.ev 12 rfl) (hM1.at 0 rfl) rfl (by kernel_rfl)) rfl (by decide) fun a4 hF4 => ?_
    refine sq (v := (.int .i64 (c.m.length : Int))) hF4 (wantedS rfl) (run_len rfl (hF4.ev 13 rfl) rfl Tryd.underlying9) rfl (by decide) fun a5 hF5 => ?_
    refine sq (v := (.bool false)) hF5 (wantedS rfl) (run_gtr rfl (hF5.ev 14 rfl) rfl (decide_eq_false (by omega))) rfl (by decide) fun a6 hF6 => ?_
    refine sq (v := (.bool false)) hF6 (wantedS rfl) (run_mv rfl (hF6.ev 15 rfl)) rfl (by decide) fun a7 hF7 => ?_
    refine sq (v := (.pointer (some ⟨g0, 1, none⟩))) hF7 (wantedG hF7 rfl rfl rfl rfl rfl) (run_fldA (m := 1) (s := 1) rfl (hF7.ev 2 rfl) Tryd.underlying26 rfl rfl (by kernel_rfl) (by decide)) rfl (by decide) fun a8 hF8 => ?_
    refine sq (v := (.int .u64 (c.n : Int))) hF8 (wantedG hF8 rfl rfl rfl rfl rfl) (run_ldF rfl (hF8.ev 17 rfl) (hM1.at 0 rfl) rfl (by kernel_rfl)) rfl (by decide) fun a9 hF9 => ?_
    refine sq (v := (.bool true)) hF9 (wantedG hF9 rfl rfl rfl rfl rfl) (run_gtr rfl (hF9.ev 18 rfl) rfl (decide_eq_true (by omega))) rfl (by decide) fun a10 hF10 => ?_
    refine sq (v := (.bool true)) hF10 (wantedS rfl) (run_pick rfl (hF10.ev 16 rfl) rfl (hF10.ev 19 rfl)) rfl (by decide) fun a11 hF11 => ?_
    refine sqEnd ?_
    clear hF2 hF3 hF4 hF5 hF6 hF7 hF8 hF9 hF10
    refine nx ?_
    refine wp_cond_true (hF11.ev 20 rfl) ?_
    refine wp_seq ?_
    refine wp_region_lit ?_
    refine sqC (v := (.bool true)) hF11 hM1 (wantedS rfl) (run_call rfl Tryd.func11 (by kernel_rfl) rfl (mapE0 )) rfl (by decide) (sfix_any w1 (HG.below hM1.below)) fun a12 w2 hb2 hF12 hM2 => ?_
    refine sq (v := (.bool true)) hF12 (wantedS rfl) (run_as rfl (hF12.ev 21 rfl)) rfl (by decide) fun a13 hF13 => ?_
    refine sqEnd ?_
    clear hF11 hF12 hM1
    refine nx ?_
    refine wp_ret ?_
    refine nxRet ?_
    exact ret1 hF13 rfl rfl ⟨rfl, hM2.below⟩
  have hbt := b.toNat_lt
  obtain ⟨lost, hlost⟩ : ∃ lost, 999 + b.toNat % 4 = lost := ⟨_, rfl⟩
  refine walk_enter Tryd.func5 rfl rfl rfl fun a0 hF0 => ?_
  have hM0 := Mem.new w
  refine wp_seq ?_
  refine wp_region_lit ?_
  refine sqNew (cs := (chA c)) (t := 26) hF0 hM0 (wantedS rfl) (run_box rfl (hF0.ev 0 rfl)) rfl (by decide) fun g0 a1 w1 hgg0 hb1 hF1 hM1 => ?_
  refine sq (v := (.bool false)) hF1 (wantedS rfl) (run_as rfl rfl) rfl (by decide) fun a2 hF2 => ?_
  refine sqEnd ?_
  clear hF0 hF1 hM0
  refine nx ?_
  refine wp_seq ?_
  refine wp_seq ?_
  refine wp_region_lit ?_
  refine sq (v := (.pointer (some ⟨g0, 0, none⟩))) hF2 (wantedS rfl) (run_fldA (m := 1) (s := 0) rfl (hF2.ev 2 rfl) Tryd.underlying26 rfl rfl (by kernel_rfl) (by decide)) rfl (by decide) fun a3 hF3 => ?_
  refine sq (v := (.string ⟨c.m.toArray⟩)) hF3 (wantedS rfl) (run_ldF rfl (hF3.ev 12 rfl) (hM1.at 0 rfl) rfl (by kernel_rfl)) rfl (by decide) fun a4 hF4 => ?_
  refine sq (v := (.int .i64 (c.m.length : Int))) hF4 (wantedS rfl) (run_len rfl (hF4.ev 13 rfl) rfl Tryd.underlying9) rfl (by decide) fun a5 hF5 => ?_
  refine sq (v := (.bool false)) hF5 (wantedS rfl) (run_gtr rfl (hF5.ev 14 rfl) rfl (decide_eq_false (by omega))) rfl (by decide) fun a6 hF6 => ?_
  refine sq (v := (.bool false)) hF6 (wantedS rfl) (run_mv rfl (hF6.ev 15 rfl)) rfl (by decide) fun a7 hF7 => ?_
  refine sq (v := (.pointer (some ⟨g0, 1, none⟩))) hF7 (wantedG hF7 rfl rfl rfl rfl rfl) (run_fldA (m := 1) (s := 1) rfl (hF7.ev 2 rfl) Tryd.underlying26 rfl rfl (by kernel_rfl) (by decide)) rfl (by decide) fun a8 hF8 => ?_
  refine sq (v := (.int .u64 (c.n : Int))) hF8 (wantedG hF8 rfl rfl rfl rfl rfl) (run_ldF rfl (hF8.ev 17 rfl) (hM1.at 0 rfl) rfl (by kernel_rfl)) rfl (by decide) fun a9 hF9 => ?_
  refine sq (v := (.bool false)) hF9 (wantedG hF9 rfl rfl rfl rfl rfl) (run_gtr rfl (hF9.ev 18 rfl) rfl (decide_eq_false (by omega))) rfl (by decide) fun a10 hF10 => ?_
  refine sq (v := (.bool false)) hF10 (wantedS rfl) (run_pick rfl (hF10.ev 16 rfl) rfl (hF10.ev 19 rfl)) rfl (by decide) fun a11 hF11 => ?_
  refine sqEnd ?_
  clear hF2 hF3 hF4 hF5 hF6 hF7 hF8 hF9 hF10
  refine nx ?_
  refine wp_cond_false (hF11.ev 20 rfl) ?_
  refine wp_skip ?_
  refine nx ?_
  refine wp_seq ?_
  refine wp_region_lit ?_
  refine sq (v := (.int .u8 (b.toNat : Int))) hF11 (wantedS rfl) (run_mv rfl (hF11.ev 1 rfl)) rfl (by decide) fun a12 hF12 => ?_
  refine sq (v := (.int .i64 (b.toNat : Int))) hF12 (wantedS rfl) (run_cvI (r := (b.toNat : Int)) rfl (hF12.ev 22 rfl) Tryd.underlying5 Tryd.underlying3 (by rw [IntKind.wrap_i64]; omega)) rfl (by decide) fun a13 hF13 => ?_
  refine sq (v := (.int .i64 ((b.toNat % 4 : Nat) : Int))) hF13 (wantedS rfl) (run_rem (r := ((b.toNat % 4 : Nat) : Int)) rfl (hF13.ev 23 rfl) rfl (by omega) (by rw [Int.tmod_eq_emod_of_nonneg (by omega)]; try omega)) rfl (by decide) fun a14 hF14 => ?_
  refine sq (v := (.int .i64 (lost : Int))) hF14 (wantedS rfl) (run_add (r := (lost : Int)) rfl rfl (hF14.ev 24 rfl) (by rw [IntKind.wrap_i64]; omega)) rfl (by decide) fun a15 hF15 => ?_
  refine sq (v := (.int .i64 (lost : Int))) hF15 (wantedS rfl) (run_as rfl (hF15.ev 25 rfl)) rfl (by decide) fun a16 hF16 => ?_
  refine sqEnd ?_
  clear hF11 hF12 hF13 hF14 hF15
  refine nx ?_
  refine wp_seq ?_
  refine wp_region_lit ?_
  refine sq (v := (.agg (chA c))) hF16 (wantedS rfl) (run_ldB rfl (hF16.ev 2 rfl) (hM1.at 0 rfl) Tryd.underlying26 rfl szCh (chA_size hLc)) rfl (by decide) fun a17 hF17 => ?_
  refine sqNew (cs := (chA noCh)) (t := 26) hF17 hM1 (wantedS rfl) (run_alloc rfl (by kernel_rfl)) rfl (by decide) fun g1 a18 w2 hgg1 hb2 hF18 hM2 => ?_
  refine sqStore (i := 0) hF18 hM2 rfl rfl rfl (hF18.ev 6 rfl) (hF18.ev 26 rfl) rfl szCh (chA_size hLc) (chA_size noCh_len) (chA_one _) fun a19 w3 hF19 hM3 => ?_
  refine sq (v := (.string ⟨List.toArray []⟩)) hF19 (wantedS rfl) (run_as rfl rfl) rfl (by decide) fun a20 hF20 => ?_
  refine sq (v := (.int .i64 0)) hF20 (wantedS rfl) (run_as rfl rfl) rfl (by decide) fun a21 hF21 => ?_
  refine sqEnd ?_
  clear hF16 hF17 hF18 hF19 hF20 hM1 hM2
  refine nx ?_
  refine wp_seq ?_
  refine wp_seq ?_
  refine wp_region_lit ?_
  refine sq (v := (.int .i64 (lost : Int))) hF21 (wantedS rfl) (run_mv rfl (hF21.ev 5 rfl)) rfl (by decide) fun a22 hF22 => ?_
  refine sq (v := (.int .i64 ((lost + 1 : Nat) : Int))) hF22 (wantedS rfl) (run_add (r := ((lost + 1 : Nat) : Int)) rfl (hF22.ev 27 rfl) rfl (by rw [IntKind.wrap_i64]; omega)) rfl (by decide) fun a23 hF23 => ?_
  refine sq (v := (.int .i64 0)) hF23 (wantedS rfl) (run_mv rfl rfl) rfl (by decide) fun a24 hF24 => ?_
  refine sqEnd ?_
  clear hF21 hF22 hF23
  refine nx ?_
  refine wp_block ?_
  refine wkLoop (fun m a w2 => ∃ i : Nat, i ≤ lost + 1 ∧ m = lost + 1 - i ∧ Fr a 77 [(2, .pointer (some ⟨g0, 0, none⟩)), (5, .int .i64 (lost : Int)), (6, .pointer (some ⟨g1, 0, none⟩)), (7, .string ⟨(frI c [120] i).toArray⟩), (8, .int .i64 0), (28, .int .i64 ((lost + 1 : Nat) : Int)), (29, .int .i64 (i : Int))] ∧ Mem w [(g1, isB 26 (chA (itS c i))), (g0, isB 26 (chA c))] w2) (lost + 1) ⟨0, Nat.zero_le _, rfl, hF24.sub ⟨rfl, rfl, rfl, rfl, rfl, rfl, rfl, trivial⟩, hM3⟩ ?_
  rintro m a0 w40 ⟨i, hi, rfl, hF40, hM40⟩
  have him := itS_m c i
  have hin := itS_n c i
  have himl : (itS c i).m.length ≤ 100 := by rw [him]; omega
  by_cases hil : i < lost + 1
  · have hS : sendS (itS c i) [120] = (itS c (i + 1), frI c [120] (i + 1), 0) := sendS_ok _ _ (by decide) (by unfold mostN; omega)
    refine wp_seq ?_
    refine wp_region_lit ?_
    refine sq (v := (.bool true)) hF40 (wantedS rfl) (run_lss rfl (hF40.ev 29 rfl) (hF40.ev 28 rfl) (decide_eq_true (by omega))) rfl (by decide) fun a41 hF41 => ?_
    refine sqEnd ?_
    clear hF40
    refine nx ?_
    refine wp_seq ?_
    refine wp_cond_true (hF41.ev 30 rfl) ?_
    refine wp_skip ?_
    refine nx ?_
    refine wp_seq ?_
    refine wp_block ?_
    refine wp_seq ?_
    refine wp_region_lit ?_
    refine sq (v := (.agg (chA (itS c i)))) hF41 (wantedS rfl) (run_ldB rfl (hF41.ev 6 rfl) (hM40.at 0 rfl) Tryd.underlying26 rfl szCh (chA_size (itS_len hLc i))) rfl (by decide) fun a42 hF42 => ?_
    refine sqC (v := (.tuple #[(.agg (chA (itS c (i + 1)))), (.string ⟨(frI c [120] (i + 1)).toArray⟩), (.int .i64 0)])) hF42 hM40 (wantedS rfl) (run_call rfl Tryd.func12 (by kernel_rfl) rfl (mapE2 (hF42.ev 32 rfl) rfl)) rfl (by decide) (send_eq hS w40 (HG.below hM40.below) (itS_len hLc i) (by first | omega | decide | (simp; done) | (simp; omega)) (by first | omega | decide | (simp; done) | (simp; omega))) fun a43 w41 hb41 hF43 hM41 => ?_
    refine sq (v := (.tuple #[(.agg (chA (itS c (i + 1)))), (.string ⟨(frI c [120] (i + 1)).toArray⟩), (.int .i64 0)])) hF43 (wantedS rfl) (run_mv rfl (hF43.ev 33 rfl)) rfl (by decide) fun a44 hF44 => ?_
    refine sq (v := (.agg (chA (itS c (i + 1))))) hF44 (wantedS rfl) (run_ext rfl (hF44.ev 31 rfl) rfl) rfl (by decide) fun a45 hF45 => ?_
    refine sq (v := (.string ⟨(frI c [120] (i + 1)).toArray⟩)) hF45 (wantedS rfl) (run_ext rfl (hF45.ev 31 rfl) rfl) rfl (by decide) fun a46 hF46 => ?_
    refine sq (v := (.int .i64 0)) hF46 (wantedS rfl) (run_ext rfl (hF46.ev 31 rfl) rfl) rfl (by decide) fun a47 hF47 => ?_
    refine sqStore (i := 0) hF47 hM41 rfl rfl rfl (hF47.ev 6 rfl) (hF47.ev 34 rfl) rfl szCh (chA_size (itS_len hLc (i + 1))) (chA_size (itS_len hLc i)) (chA_one _) fun a48 w42 hF48 hM42 => ?_
    refine sq (v := (.string ⟨(frI c [120] (i + 1)).toArray⟩)) hF48 (wantedS rfl) (run_as rfl (hF48.ev 35 rfl)) rfl (by decide) fun a49 hF49 => ?_
    refine sq (v := (.int .i64 0)) hF49 (wantedS rfl) (run_as rfl (hF49.ev 36 rfl)) rfl (by decide) fun a50 hF50 => ?_
    refine sqEnd ?_
    clear hF41 hF42 hF43 hF44 hF45 hF46 hF47 hF48 hF49 hM40 hM41
    refine nx ?_
    refine wp_seq ?_
    refine wp_region_lit ?_
    refine sq (v := (.int .i64 0)) hF50 (wantedS rfl) (run_mv rfl (hF50.ev 8 rfl)) rfl (by decide) fun a51 hF51 => ?_
    refine sq (v := (.bool false)) hF51 (wantedS rfl) (run_nei rfl (hF51.ev 37 rfl) rfl (bne_self_eq_false _)) rfl (by decide) fun a52 hF52 => ?_
    refine sqEnd ?_
    clear hF50 hF51
    refine nx ?_
    refine wp_cond_false (hF52.ev 38 rfl) ?_
    refine wp_skip ?_
    refine bkEnd ?_
    refine nx ?_
    refine wp_region_lit ?_
    refine sq (v := (.int .i64 ((i + 1 : Nat) : Int))) hF52 (wantedS rfl) (run_add (r := ((i + 1 : Nat) : Int)) rfl (hF52.ev 29 rfl) rfl (by rw [IntKind.wrap_i64]; omega)) rfl (by decide) fun a53 hF53 => ?_
    refine sq (v := (.int .i64 ((i + 1 : Nat) : Int))) hF53 (wantedS rfl) (run_mv rfl (hF53.ev 39 rfl)) rfl (by decide) fun a54 hF54 => ?_
    refine sqEnd ?_
    clear hF52 hF53
    refine nx ?_
    exact ⟨_, by omega, i + 1, by omega, rfl, hF54.sub ⟨rfl, rfl, rfl, rfl, rfl, rfl, rfl, trivial⟩, hM42⟩
  · have hie : i = lost + 1 := by omega
    subst hie
    have hlm := itS_m c lost
    have hln := itS_n c lost
    have hlml : (itS c lost).m.length ≤ 100 := by rw [hlm]; omega
    have hfl := frameS_len (itS c lost) [120] (by omega) (by decide)
    have hxl : ([120] : List UInt8).length = 1 := rfl
    have hff : frI c [120] (lost + 1) = frameS (itS c lost) [120] := rfl
    have hfl2 : (frI c [120] (lost + 1)).length ≤ 200 := by rw [hff]; omega
    by_cases hfar : 1000 < lost
    · have hT : takeS c (frI c [120] (lost + 1)) = (noCh, [], 6) := take_far _ _ _ hlm.symm (by omega) (by decide) (by unfold mostN; omega) (by omega)
      refine wp_seq ?_
      refine wp_region_lit ?_
      refine sq (v := (.bool false)) hF40 (wantedS rfl) (run_lss rfl (hF40.ev 29 rfl) (hF40.ev 28 rfl) (decide_eq_false (by omega))) rfl (by decide) fun a41 hF41 => ?_
      refine sqEnd ?_
      clear hF40
      refine nx ?_
      refine wp_seq ?_
      refine wp_cond_false (hF41.ev 30 rfl) ?_
      refine wp_exit ?_
      refine nxExit ?_
      refine nxExit ?_
      refine bkHere ?_
      refine nx ?_
      refine wp_seq ?_
      refine wp_region_lit ?_
      refine sq (v := (.agg (chA c))) hF41 (wantedS rfl) (run_ldB rfl (hF41.ev 2 rfl) (hM40.at 1 rfl) Tryd.underlying26 rfl szCh (chA_size hLc)) rfl (by decide) fun a42 hF42 => ?_
      refine sq (v := (.string ⟨(frI c [120] (lost + 1)).toArray⟩)) hF42 (wantedS rfl) (run_mv rfl (hF42.ev 7 rfl)) rfl (by decide) fun a43 hF43 => ?_
      refine sqC (v := (.tuple #[(.agg (chA noCh)), (.string ⟨List.toArray []⟩), (.int .i64 6)])) hF43 hM40 (wantedS rfl) (run_call rfl Tryd.func13 (by kernel_rfl) rfl (mapE2 (hF43.ev 41 rfl) (hF43.ev 42 rfl))) rfl (by decide) (take_eq hT w40 (HG.below hM40.below) hLc (by first | omega | decide | (simp; done) | (simp; omega)) (by first | omega | decide | (simp; done) | (simp; omega)) (by first | omega | decide | (simp; done) | (simp; omega))) fun a44 w41 hb41 hF44 hM41 => ?_
      refine sq (v := (.tuple #[(.agg (chA noCh)), (.string ⟨List.toArray []⟩), (.int .i64 6)])) hF44 (wantedS rfl) (run_mv rfl (hF44.ev 43 rfl)) rfl (by decide) fun a45 hF45 => ?_
      refine sq (v := (.agg (chA noCh))) hF45 (wantedS rfl) (run_ext rfl (hF45.ev 40 rfl) rfl) rfl (by decide) fun a46 hF46 => ?_
      refine sq (v := (.string ⟨List.toArray []⟩)) hF46 (wantedS rfl) (run_ext rfl (hF46.ev 40 rfl) rfl) rfl (by decide) fun a47 hF47 => ?_
      refine sq (v := (.int .i64 6)) hF47 (wantedS rfl) (run_ext rfl (hF47.ev 40 rfl) rfl) rfl (by decide) fun a48 hF48 => ?_
      refine sqNew (cs := (chA noCh)) (t := 26) hF48 hM41 (wantedS rfl) (run_alloc rfl (by kernel_rfl)) rfl (by decide) fun g2 a49 w42 hgg2 hb42 hF49 hM42 => ?_
      refine sqStore (i := 0) hF49 hM42 rfl rfl rfl (hF49.ev 9 rfl) (hF49.ev 44 rfl) rfl szCh (chA_size noCh_len) (chA_size noCh_len) (chA_one _) fun a50 w43 hF50 hM43 => ?_
      refine sq (v := (.string ⟨List.toArray []⟩)) hF50 (wantedS rfl) (run_as rfl (hF50.ev 45 rfl)) rfl (by decide) fun a51 hF51 => ?_
      refine sq (v := (.int .i64 6)) hF51 (wantedS rfl) (run_as rfl (hF51.ev 46 rfl)) rfl (by decide) fun a52 hF52 => ?_
      refine sqEnd ?_
      clear hF41 hF42 hF43 hF44 hF45 hF46 hF47 hF48 hF49 hF50 hF51 hM40 hM41 hM42
      refine nx ?_
      refine wp_seq ?_
      refine wp_seq ?_
      refine wp_region_lit ?_
      refine sq (v := (.int .i64 (lost : Int))) hF52 (wantedS rfl) (run_mv rfl (hF52.ev 5 rfl)) rfl (by decide) fun a53 hF53 => ?_
      refine sq (v := (.bool true)) hF53 (wantedS rfl) (run_gtr rfl (hF53.ev 47 rfl) rfl (decide_eq_true (by omega))) rfl (by decide) fun a54 hF54 => ?_
      refine sqEnd ?_
      clear hF52 hF53
      refine nx ?_
      refine wp_cond_true (hF54.ev 48 rfl) ?_
      refine wp_seq ?_
      refine wp_region_lit ?_
      refine sqC (v := (.bool true)) hF54 hM43 (wantedS rfl) (run_call rfl Tryd.func11 (by kernel_rfl) rfl (mapE0 )) rfl (by decide) (sfix_any w43 (HG.below hM43.below)) fun a55 w44 hb44 hF55 hM44 => ?_
      refine sq (v := (.bool true)) hF55 (wantedS rfl) (run_mv rfl (hF55.ev 49 rfl)) rfl (by decide) fun a56 hF56 => ?_
      refine sq (v := (.int .i64 6)) hF56 (wantedG hF56 rfl rfl rfl rfl rfl) (run_mv rfl (hF56.ev 11 rfl)) rfl (by decide) fun a57 hF57 => ?_
      refine sq (v := (.bool true)) hF57 (wantedG hF57 rfl rfl rfl rfl rfl) (run_eqi rfl (hF57.ev 51 rfl) rfl (beq_self_eq_true _)) rfl (by decide) fun a58 hF58 => ?_
      refine sq (v := (.bool true)) hF58 (wantedS rfl) (run_pick rfl (hF58.ev 50 rfl) (hF58.ev 52 rfl) rfl) rfl (by decide) fun a59 hF59 => ?_
      refine sq (v := (.bool true)) hF59 (wantedS rfl) (run_mv rfl (hF59.ev 53 rfl)) rfl (by decide) fun a60 hF60 => ?_
      refine sq (v := (.string ⟨List.toArray []⟩)) hF60 (wantedG hF60 rfl rfl rfl rfl rfl) (run_mv rfl (hF60.ev 10 rfl)) rfl (by decide) fun a61 hF61 => ?_
      refine sq (v := (.bool true)) hF61 (wantedG hF61 rfl rfl rfl rfl rfl) (run_eqs rfl (hF61.ev 55 rfl) rfl (beq_self_eq_true _)) rfl (by decide) fun a62 hF62 => ?_
      refine sq (v := (.bool true)) hF62 (wantedS rfl) (run_pick rfl (hF62.ev 54 rfl) (hF62.ev 56 rfl) rfl) rfl (by decide) fun a63 hF63 => ?_
      refine sq (v := (.bool true)) hF63 (wantedS rfl) (run_mv rfl (hF63.ev 57 rfl)) rfl (by decide) fun a64 hF64 => ?_
      refine sq (v := (.agg (chA noCh))) hF64 (wantedG hF64 rfl rfl rfl rfl rfl) (run_ldB rfl (hF64.ev 9 rfl) (hM44.at 0 rfl) Tryd.underlying26 rfl szCh (chA_size noCh_len)) rfl (by decide) fun a65 hF65 => ?_
      refine sq (v := (.agg (chA noCh))) hF65 (wantedG hF65 rfl rfl rfl rfl rfl) (run_blt (vs := #[]) (cs := chA noCh) rfl (by simp) built_ch0) rfl (by decide) fun a66 hF66 => ?_
      refine sq (v := (.bool true)) hF66 (wantedG hF66 rfl rfl rfl rfl rfl) (run_eqCh noCh_len rfl (hF66.ev 59 rfl) (hF66.ev 60 rfl)) rfl (by decide) fun a67 hF67 => ?_
      refine sq (v := (.bool true)) hF67 (wantedS rfl) (run_pick rfl (hF67.ev 58 rfl) (hF67.ev 61 rfl) rfl) rfl (by decide) fun a68 hF68 => ?_
      refine sq (v := (.bool true)) hF68 (wantedS rfl) (run_as rfl (hF68.ev 62 rfl)) rfl (by decide) fun a69 hF69 => ?_
      refine sqEnd ?_
      clear hF54 hF55 hF56 hF57 hF58 hF59 hF60 hF61 hF62 hF63 hF64 hF65 hF66 hF67 hF68 hM43
      refine nx ?_
      refine wp_ret ?_
      refine nxRet ?_
      exact ret1 hF69 rfl rfl ⟨rfl, hM44.below⟩
    · have hT : takeS c (frI c [120] (lost + 1)) = (itS c (lost + 1), [120], 0) := take_sent _ _ _ hlm.symm (by omega) (by decide) (by unfold mostN; omega) (by omega) (by omega) (by rw [show (itS c lost).n - c.n = lost by omega, itS_k])
      refine wp_seq ?_
      refine wp_region_lit ?_
      refine sq (v := (.bool false)) hF40 (wantedS rfl) (run_lss rfl (hF40.ev 29 rfl) (hF40.ev 28 rfl) (decide_eq_false (by omega))) rfl (by decide) fun a41 hF41 => ?_
      refine sqEnd ?_
      clear hF40
      refine nx ?_
      refine wp_seq ?_
      refine wp_cond_false (hF41.ev 30 rfl) ?_
      refine wp_exit ?_
      refine nxExit ?_
      refine nxExit ?_
      refine bkHere ?_
      refine nx ?_
      refine wp_seq ?_
      refine wp_region_lit ?_
      refine sq (v := (.agg (chA c))) hF41 (wantedS rfl) (run_ldB rfl (hF41.ev 2 rfl) (hM40.at 1 rfl) Tryd.underlying26 rfl szCh (chA_size hLc)) rfl (by decide) fun a42 hF42 => ?_
      refine sq (v := (.string ⟨(frI c [120] (lost + 1)).toArray⟩)) hF42 (wantedS rfl) (run_mv rfl (hF42.ev 7 rfl)) rfl (by decide) fun a43 hF43 => ?_
      refine sqC (v := (.tuple #[(.agg (chA (itS c (lost + 1)))), (.string ⟨List.toArray [120]⟩), (.int .i64 0)])) hF43 hM40 (wantedS rfl) (run_call rfl Tryd.func13 (by kernel_rfl) rfl (mapE2 (hF43.ev 41 rfl) (hF43.ev 42 rfl))) rfl (by decide) (take_eq hT w40 (HG.below hM40.below) hLc (by first | omega | decide | (simp; done) | (simp; omega)) (by first | omega | decide | (simp; done) | (simp; omega)) (by first | omega | decide | (simp; done) | (simp; omega))) fun a44 w41 hb41 hF44 hM41 => ?_
      refine sq (v := (.tuple #[(.agg (chA (itS c (lost + 1)))), (.string ⟨List.toArray [120]⟩), (.int .i64 0)])) hF44 (wantedS rfl) (run_mv rfl (hF44.ev 43 rfl)) rfl (by decide) fun a45 hF45 => ?_
      refine sq (v := (.agg (chA (itS c (lost + 1))))) hF45 (wantedS rfl) (run_ext rfl (hF45.ev 40 rfl) rfl) rfl (by decide) fun a46 hF46 => ?_
      refine sq (v := (.string ⟨List.toArray [120]⟩)) hF46 (wantedS rfl) (run_ext rfl (hF46.ev 40 rfl) rfl) rfl (by decide) fun a47 hF47 => ?_
      refine sq (v := (.int .i64 0)) hF47 (wantedS rfl) (run_ext rfl (hF47.ev 40 rfl) rfl) rfl (by decide) fun a48 hF48 => ?_
      refine sqNew (cs := (chA noCh)) (t := 26) hF48 hM41 (wantedS rfl) (run_alloc rfl (by kernel_rfl)) rfl (by decide) fun g3 a49 w42 hgg3 hb42 hF49 hM42 => ?_
      refine sqStore (i := 0) hF49 hM42 rfl rfl rfl (hF49.ev 9 rfl) (hF49.ev 44 rfl) rfl szCh (chA_size (itS_len hLc (lost + 1))) (chA_size noCh_len) (chA_one _) fun a50 w43 hF50 hM43 => ?_
      refine sq (v := (.string ⟨List.toArray [120]⟩)) hF50 (wantedS rfl) (run_as rfl (hF50.ev 45 rfl)) rfl (by decide) fun a51 hF51 => ?_
      refine sq (v := (.int .i64 0)) hF51 (wantedS rfl) (run_as rfl (hF51.ev 46 rfl)) rfl (by decide) fun a52 hF52 => ?_
      refine sqEnd ?_
      clear hF41 hF42 hF43 hF44 hF45 hF46 hF47 hF48 hF49 hF50 hF51 hM40 hM41 hM42
      refine nx ?_
      refine wp_seq ?_
      refine wp_seq ?_
      refine wp_region_lit ?_
      refine sq (v := (.int .i64 (lost : Int))) hF52 (wantedS rfl) (run_mv rfl (hF52.ev 5 rfl)) rfl (by decide) fun a53 hF53 => ?_
      refine sq (v := (.bool false)) hF53 (wantedS rfl) (run_gtr rfl (hF53.ev 47 rfl) rfl (decide_eq_false (by omega))) rfl (by decide) fun a54 hF54 => ?_
      refine sqEnd ?_
      clear hF52 hF53
      refine nx ?_
      refine wp_cond_false (hF54.ev 48 rfl) ?_
      refine wp_skip ?_
      refine nx ?_
      refine wp_seq ?_
      refine wp_region_lit ?_
      refine sqC (v := (.bool true)) hF54 hM43 (wantedS rfl) (run_call rfl Tryd.func11 (by kernel_rfl) rfl (mapE0 )) rfl (by decide) (sfix_any w43 (HG.below hM43.below)) fun a55 w44 hb44 hF55 hM44 => ?_
      refine sq (v := (.bool true)) hF55 (wantedS rfl) (run_mv rfl (hF55.ev 63 rfl)) rfl (by decide) fun a56 hF56 => ?_
      refine sq (v := (.int .i64 0)) hF56 (wantedG hF56 rfl rfl rfl rfl rfl) (run_mv rfl (hF56.ev 11 rfl)) rfl (by decide) fun a57 hF57 => ?_
      refine sq (v := (.bool true)) hF57 (wantedG hF57 rfl rfl rfl rfl rfl) (run_eqi rfl (hF57.ev 65 rfl) rfl (beq_self_eq_true _)) rfl (by decide) fun a58 hF58 => ?_
      refine sq (v := (.bool true)) hF58 (wantedS rfl) (run_pick rfl (hF58.ev 64 rfl) (hF58.ev 66 rfl) rfl) rfl (by decide) fun a59 hF59 => ?_
      refine sq (v := (.bool true)) hF59 (wantedS rfl) (run_mv rfl (hF59.ev 67 rfl)) rfl (by decide) fun a60 hF60 => ?_
      refine sq (v := (.string ⟨List.toArray [120]⟩)) hF60 (wantedG hF60 rfl rfl rfl rfl rfl) (run_mv rfl (hF60.ev 10 rfl)) rfl (by decide) fun a61 hF61 => ?_
      refine sq (v := (.bool true)) hF61 (wantedG hF61 rfl rfl rfl rfl rfl) (run_eqs rfl (hF61.ev 69 rfl) rfl (beq_self_eq_true _)) rfl (by decide) fun a62 hF62 => ?_
      refine sq (v := (.bool true)) hF62 (wantedS rfl) (run_pick rfl (hF62.ev 68 rfl) (hF62.ev 70 rfl) rfl) rfl (by decide) fun a63 hF63 => ?_
      refine sq (v := (.bool true)) hF63 (wantedS rfl) (run_mv rfl (hF63.ev 71 rfl)) rfl (by decide) fun a64 hF64 => ?_
      refine sq (v := (.agg (chA (itS c (lost + 1))))) hF64 (wantedG hF64 rfl rfl rfl rfl rfl) (run_ldB rfl (hF64.ev 9 rfl) (hM44.at 0 rfl) Tryd.underlying26 rfl szCh (chA_size (itS_len hLc (lost + 1)))) rfl (by decide) fun a65 hF65 => ?_
      refine sq (v := (.agg (chA (itS c (lost + 1))))) hF65 (wantedG hF65 rfl rfl rfl rfl rfl) (run_ldB rfl (hF65.ev 6 rfl) (hM44.at 1 rfl) Tryd.underlying26 rfl szCh (chA_size (itS_len hLc (lost + 1)))) rfl (by decide) fun a66 hF66 => ?_
      refine sq (v := (.bool true)) hF66 (wantedG hF66 rfl rfl rfl rfl rfl) (run_eqCh (itS_len hLc (lost + 1)) rfl (hF66.ev 73 rfl) (hF66.ev 74 rfl)) rfl (by decide) fun a67 hF67 => ?_
      refine sq (v := (.bool true)) hF67 (wantedS rfl) (run_pick rfl (hF67.ev 72 rfl) (hF67.ev 75 rfl) rfl) rfl (by decide) fun a68 hF68 => ?_
      refine sq (v := (.bool true)) hF68 (wantedS rfl) (run_as rfl (hF68.ev 76 rfl)) rfl (by decide) fun a69 hF69 => ?_
      refine sqEnd ?_
      clear hF54 hF55 hF56 hF57 hF58 hF59 hF60 hF61 hF62 hF63 hF64 hF65 hF66 hF67 hF68 hM43
      refine nx ?_
      refine wp_ret ?_
      exact ret1 hF69 rfl rfl ⟨rfl, hM44.below⟩
end Go.Proofs.YtioioibcldgknaaDoor
