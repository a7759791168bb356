/- The walk of share.Split into five. Printed by gen_key4.py. -/
import Derived.Test.YtconhhhggckcbaaDoorFldP
import Derived.Test.YtconhhhggckcbaaDoorShQ
import Derived.Test.YtconhhhggckcbaaDoorEndB
namespace Go.Proofs.YtconhhhggckcbaaDoor
open Go.RowKit

set_option maxRecDepth 100000 in
set_option maxHeartbeats 1000000 in
theorem split_any (k no : List UInt8) (w : World) (hLk : k.length = 32) (hno : no.length = 64) : Calls Tryd.prog 38 #[.agg (cells8 k), .int .i64 5, .string ⟨no.toArray⟩] w fun e w' => (∃ v, e = .returned (.tuple #[v, .int .i64 0]) ∧ w'.ownsRow w.heap.size 54 33 v 5 ((shS k no).flatMap shareC)) ∧ Below w.heap.size w w' := by
  refine walk_enter Tryd.func38 rfl rfl rfl fun a0 F0 => ?_
  have M0 := Mem.new w
  refine wsl ?_
  refine sqNew (cs := (cells8 k)) (t := 23) F0 M0 (wantedS rfl) (run_box rfl (F0.ev 0 rfl)) rfl (by decide) fun g0 a1 w1 hgg0 hb1 F1 M1 => ?_
  refine sr (v := (.slice none 0 0)) F1 (run_as rfl rfl) rfl rfl rfl fun a2 F2 => ?_
  refine sr (v := (.int .i64 0)) F2 (run_as rfl rfl) rfl rfl rfl fun a3 F3 => ?_
  refine sn ?_
  clear F0 F1 F2 M0
  refine wp_seq ?_
  refine wsl ?_
  refine mvS F3 rfl rfl rfl rfl rfl fun a4 F4 => ?_
  refine sr (v := (.bool false)) F4 (run_lss rfl (F4.ev 14 rfl) rfl (decide_eq_false (by omega))) rfl rfl rfl fun a5 F5 => ?_
  refine mvS F5 rfl rfl rfl rfl rfl fun a6 F6 => ?_
  refine sq (v := (.int .i64 5)) F6 (wantedG F6 rfl rfl rfl rfl rfl) (run_mv rfl (F6.ev 1 rfl)) rfl (by decide) fun a7 F7 => ?_
  refine sq (v := (.bool false)) F7 (wantedG F7 rfl rfl rfl rfl rfl) (run_gtr rfl (F7.ev 17 rfl) rfl (decide_eq_false (by omega))) rfl (by decide) fun a8 F8 => ?_
  refine sr (v := (.bool false)) F8 (run_pick rfl (F8.ev 16 rfl) rfl (F8.ev 18 rfl)) rfl rfl rfl fun a9 F9 => ?_
  refine mvS F9 rfl rfl rfl rfl rfl fun a10 F10 => ?_
  refine sq (v := (.string ⟨no.toArray⟩)) F10 (wantedG F10 rfl rfl rfl rfl rfl) (run_mv rfl (F10.ev 2 rfl)) rfl (by decide) fun a11 F11 => ?_
  refine sq (v := (.int .i64 (no.length : Int))) F11 (wantedG F11 rfl rfl rfl rfl rfl) (run_len rfl (F11.ev 21 rfl) rfl Tryd.underlying9) rfl (by decide) fun a12 F12 => ?_
  refine sq (v := (.bool false)) F12 (wantedG F12 rfl rfl rfl rfl rfl) (run_nei rfl (F12.ev 22 rfl) rfl (bne_eq_false_iff_eq.2 (by omega))) rfl (by decide) fun a13 F13 => ?_
  refine sr (v := (.bool false)) F13 (run_pick rfl (F13.ev 20 rfl) rfl (F13.ev 23 rfl)) rfl rfl rfl fun a14 F14 => ?_
  refine sn ?_
  clear F3 F4 F5 F6 F7 F8 F9 F10 F11 F12 F13
  refine cfs (F14.ev 24 rfl) ?_
  refine wsl ?_
  refine mvS F14 rfl rfl rfl rfl rfl fun a15 F15 => ?_
  refine sqMakeSh F15 M1 rfl rfl (F15.ev 25 rfl) (F15.ev 25 rfl) rfl (by decide) fun g1 a16 w2 hgg1 hb2 F16 M2 => ?_
  refine asS F16 rfl rfl rfl rfl rfl fun a17 F17 => ?_
  refine sn ?_
  clear F14 F15 F16 M1
  refine wp_seq ?_
  refine wsl ?_
  refine mvS F17 rfl rfl rfl rfl rfl fun a18 F18 => ?_
  refine sr F18 (run_lenSl rfl (F18.ev 27 rfl) rfl Tryd.underlying31) rfl rfl rfl fun a19 F19 => ?_
  refine sr (v := (.int .i64 0)) F19 (run_mv rfl rfl) rfl rfl rfl fun a20 F20 => ?_
  refine sn ?_
  clear F17 F18 F19
  refine wp_block ?_
  refine wkLoop (fun m a0 w2 => ∃ i : Nat, i ≤ 5 ∧ m = 5 - i ∧ Fr a0 75 [(2, .string ⟨no.toArray⟩), (3, .pointer (some ⟨g0, 0, none⟩)), (8, .slice (some ⟨g1, 0, none⟩) 5 5), (28, .int .i64 5), (29, .int .i64 (i : Int))] ∧ Mem w [(g1, isB 54 (shC (shA i))), (g0, isB 23 (cells8 k))] w2) 5 ⟨0, Nat.zero_le _, rfl, F20.sub ⟨rfl, rfl, rfl, rfl, rfl, trivial⟩, by rw [← shA_zero]; exact M2⟩ ?_
  rintro m a0 w1 ⟨i, hi, rfl, F0, M0⟩
  by_cases h1 : i < 5
  · have hcv : ((UInt8.ofNat (i + 1)).toNat : Int) = ((i + 1 : Nat) : Int) := by rw [UInt8.toNat_ofNat']; omega
    refine wsl ?_
    refine sr (v := (.bool true)) F0 (run_lss rfl (F0.ev 29 rfl) (F0.ev 28 rfl) (decide_eq_true (by omega))) rfl rfl rfl fun a1 F1 => ?_
    refine sn ?_
    clear F0
    refine wp_seq ?_
    refine cts (F1.ev 30 rfl) ?_
    refine wp_seq ?_
    refine wp_block ?_
    refine wsl ?_
    refine mvS F1 rfl rfl rfl rfl rfl fun a2 F2 => ?_
    refine asS F2 rfl rfl rfl rfl rfl fun a3 F3 => ?_
    refine sn ?_
    clear F1 F2
    refine wp_region_lit ?_
    refine mvS F3 rfl rfl rfl rfl rfl fun a4 F4 => ?_
    refine mvS F4 rfl rfl rfl rfl rfl fun a5 F5 => ?_
    refine mvS F5 rfl rfl rfl rfl rfl fun a6 F6 => ?_
    refine sr F6 (run_add (r := ((i + 1 : Nat) : Int)) rfl (F6.ev 34 rfl) rfl (by rw [IntKind.wrap_i64]; omega)) rfl rfl rfl fun a7 F7 => ?_
    refine sr F7 (run_cvI (r := ((UInt8.ofNat (i + 1)).toNat : Int)) rfl (F7.ev 35 rfl) Tryd.underlying3 Tryd.underlying5 (by rw [hcv, IntKind.wrap_u8]; omega)) rfl rfl rfl fun a8 F8 => ?_
    refine sr (v := (.pointer (some ⟨g1, i * 33, none⟩))) F8 (run_idxSh (i := i) rfl (F8.ev 32 rfl) (F8.ev 33 rfl) rfl (by omega)) rfl rfl rfl fun a9 F9 => ?_
    refine sr (v := (.pointer (some ⟨g1, i * 33 + 0, none⟩))) F9 (run_fldO (m := 1) (s := 0) rfl (F9.ev 37 rfl) Tryd.underlying54 rfl rfl (by kernel_rfl) (by decide)) rfl rfl rfl fun a10 F10 => ?_
    refine sqSetSh (j := 0) (f := shA i) F10 M0 rfl rfl rfl (F10.ev 38 rfl) (F10.ev 36 rfl) rfl (by omega) fun a11 w2 hgr2 F11 M1 => ?_
    refine sqEnd ?_
    clear F3 F4 F5 F6 F7 F8 F9 F10 M0
    refine bkEnd ?_
    refine nx ?_
    refine wp_region_lit ?_
    refine sr F11 (run_add (r := ((i + 1 : Nat) : Int)) rfl (F11.ev 29 rfl) rfl (by rw [IntKind.wrap_i64]; omega)) rfl rfl rfl fun a12 F12 => ?_
    refine mvS F12 rfl rfl rfl rfl rfl fun a13 F13 => ?_
    refine sn ?_
    clear F11 F12
    exact ⟨_, by omega, i + 1, by omega, rfl, F13.sub ⟨rfl, rfl, rfl, rfl, rfl, trivial⟩, by rw [← shA_step]; exact M1⟩
  · have hie : i = 5 := by omega
    subst hie
    rw [shA_B k no] at M0
    refine wsl ?_
    refine sr (v := (.bool false)) F0 (run_lss rfl (F0.ev 29 rfl) (F0.ev 28 rfl) (decide_eq_false (by omega))) rfl rfl rfl fun a1 F1 => ?_
    refine sn ?_
    clear F0
    refine wp_seq ?_
    refine wp_cond_false (F1.ev 30 rfl) ?_
    refine wp_exit ?_
    refine nxExit ?_
    refine nxExit ?_
    refine bkHere ?_
    refine nx ?_
    refine wp_seq ?_
    refine wsl ?_
    refine sr F1 (run_ldB rfl (F1.ev 3 rfl) (M0.at 1 rfl) Tryd.underlying23 rfl sz32k (szOf hLk)) rfl rfl rfl fun a2 F2 => ?_
    refine sr (v := (.int .i64 0)) F2 (run_mv rfl rfl) rfl rfl rfl fun a3 F3 => ?_
    refine sn ?_
    clear F1 F2
    refine wp_block ?_
    refine wkLoop (fun m a0 w2 => ∃ i : Nat, i ≤ 32 ∧ m = 32 - i ∧ Fr a0 75 [(2, .string ⟨no.toArray⟩), (8, .slice (some ⟨g1, 0, none⟩) 5 5), (40, .agg (cells8 k)), (41, .int .i64 (i : Int))] ∧ Mem w [(g1, isB 54 (shC (shB k no i 0))), (g0, isB 23 (cells8 k))] w2) 32 ⟨0, Nat.zero_le _, rfl, F3.sub ⟨rfl, rfl, rfl, rfl, trivial⟩, M0⟩ ?_
    rintro m a0 w1 ⟨i, hi, rfl, F0, M0⟩
    by_cases h1 : i < 32
    · skip
      refine wsl ?_
      refine sr (v := (.bool true)) F0 (run_lss rfl (F0.ev 41 rfl) rfl (decide_eq_true (by omega))) rfl rfl rfl fun a1 F1 => ?_
      refine sn ?_
      clear F0
      refine wp_seq ?_
      refine cts (F1.ev 42 rfl) ?_
      refine wp_seq ?_
      refine wp_block ?_
      refine wsl ?_
      refine mvS F1 rfl rfl rfl rfl rfl fun a2 F2 => ?_
      refine sr (v := (.int .u8 ((bt k i).toNat : Int))) F2 (run_iA8 (i := i) (cnt := 32) rfl (F2.ev 40 rfl) (F2.ev 41 rfl) rfl (by omega) hLk Tryd.underlying23 (by kernel_rfl) (by kernel_rfl)) rfl rfl rfl fun a3 F3 => ?_
      refine asS F3 rfl rfl rfl rfl rfl fun a4 F4 => ?_
      refine asS F4 rfl rfl rfl rfl rfl fun a5 F5 => ?_
      refine sn ?_
      clear F1 F2 F3 F4
      refine wp_seq ?_
      obtain ⟨KL, hKL⟩ : ∃ KL, KL = [kval (.int .u8 ((bt k i).toNat : Int)), kval (.string ⟨no.toArray⟩), kval (.int .i64 (i : Int)), kval (.int .u8 ((bt no i).toNat : Int)), kval (.string ⟨no.toArray⟩), kval (.int .i64 (i : Int)), kval (.int .i64 ((32 + i : Nat) : Int)), kval (.int .u8 ((bt no (32 + i : Nat)).toNat : Int))] := ⟨_, rfl⟩
      have K0 := getK hKL 0
      have K1 := getK hKL 1
      have K2 := getK hKL 2
      have K3 := getK hKL 3
      have K4 := getK hKL 4
      have K5 := getK hKL 5
      have K6 := getK hKL 6
      have K7 := getK hKL 7
      have HKL : KL.length ≤ 8 := by rw [hKL]; exact Nat.le_refl _
      clear hKL
      refine wp_region_kdTail2 75 8 (by kernel_rfl) (by kernel_rfl) (by kernel_rfl) (by kernel_rfl) F5.size KL HKL ?_ ?_
      · refine ⟨?_, ?_, ?_, ?_, ?_, ?_, ?_, ?_, trivial⟩
        · exact asksHY rfl fun a W hS hh hd => giv_run (run_mv rfl (eval_tmp (hh 11 _ rfl (F5.at 11 rfl)))) K0
        · exact asksHY rfl fun a W hS hh hd => giv_run (run_mv rfl (eval_tmp (hh 2 _ rfl (F5.at 2 rfl)))) K1
        · exact asksHY rfl fun a W hS hh hd => giv_run (run_mv rfl (eval_tmp (hh 10 _ rfl (F5.at 10 rfl)))) K2
        · exact asksHY rfl fun a W hS hh hd => giv_run (run_sAt (n := i) rfl (eval_tmp (hd.vl 1 46 (by kernel_rfl) K1)) (eval_tmp (hd.vl 2 47 (by kernel_rfl) K2)) Tryd.underlying9 rfl (by omega)) K3
        · exact asksHY rfl fun a W hS hh hd => giv_run (run_mv rfl (eval_tmp (hh 2 _ rfl (F5.at 2 rfl)))) K4
        · exact asksHY rfl fun a W hS hh hd => giv_run (run_mv rfl (eval_tmp (hh 10 _ rfl (F5.at 10 rfl)))) K5
        · exact asksHY rfl fun a W hS hh hd => giv_run (run_add (r := ((32 + i : Nat) : Int)) rfl rfl (eval_tmp (hd.vl 5 50 (by kernel_rfl) K5)) (by rw [IntKind.wrap_i64]; omega)) K6
        · exact asksHY rfl fun a W hS hh hd => giv_run (run_sAt (n := (32 + i : Nat)) rfl (eval_tmp (hd.vl 4 49 (by kernel_rfl) K4)) (eval_tmp (hd.vl 6 51 (by kernel_rfl) K6)) Tryd.underlying9 rfl (by omega)) K7
      · intro a6 w2 hb2 hK
        have e0 := hK.hvl 0 45 rfl (by kernel_rfl) K0
        have e1 := hK.hvl 1 46 rfl (by kernel_rfl) K1
        have e2 := hK.hvl 2 47 rfl (by kernel_rfl) K2
        have e3 := hK.hvl 3 48 rfl (by kernel_rfl) K3
        have e4 := hK.hvl 4 49 rfl (by kernel_rfl) K4
        have e5 := hK.hvl 5 50 rfl (by kernel_rfl) K5
        have e6 := hK.hvl 6 51 rfl (by kernel_rfl) K6
        have e7 := hK.hvl 7 52 rfl (by kernel_rfl) K7
        have F6 : Fr a6 75 [(2, (.string ⟨no.toArray⟩)), (8, (.slice (some ⟨g1, 0, none⟩) 5 5)), (10, (.int .i64 (i : Int))), (11, (.int .u8 ((bt k i).toNat : Int))), (40, (.agg (cells8 k))), (41, (.int .i64 (i : Int))), (42, (.bool true)), (43, (.int .i64 (i : Int))), (44, (.int .u8 ((bt k i).toNat : Int))), (45, (.int .u8 ((bt k i).toNat : Int))), (48, (.int .u8 ((bt no i).toNat : Int))), (52, (.int .u8 ((bt no (32 + i : Nat)).toNat : Int)))] := (hK.hfr F5 [_, _, _, _, _, _, _, _] ⟨e0, e1, e2, e3, e4, e5, e6, e7, trivial⟩).sub ⟨rfl, rfl, rfl, rfl, rfl, rfl, rfl, rfl, rfl, rfl, rfl, rfl, trivial⟩
        have M1 := M0.grow hb2
        clear hK K0 e0 K1 e1 K2 e2 K3 e3 K4 e4 K5 e5 K6 e6 K7 e7 HKL
        simp only [List.drop_succ_cons, List.drop_zero]
        refine sqBytes [(bt k i), (bt no i), (bt no (32 + i : Nat))] F6 M1 (wantedS rfl) (run_bytes3 rfl (F6.ev 45 rfl) (F6.ev 48 rfl) (F6.ev 52 rfl)) rfl (by decide) fun g2 a7 w3 hgg2 hb3 F7 M2 => ?_
        refine asS F7 rfl rfl rfl rfl rfl fun a8 F8 => ?_
        refine sn ?_
        clear F5 F6 F7 M0 M1
        refine wsl ?_
        refine mvS F8 rfl rfl rfl rfl rfl fun a9 F9 => ?_
        refine sr F9 (run_lenSl rfl (F9.ev 54 rfl) rfl Tryd.underlying31) rfl rfl rfl fun a10 F10 => ?_
        refine sr (v := (.int .i64 0)) F10 (run_mv rfl rfl) rfl rfl rfl fun a11 F11 => ?_
        refine sn ?_
        clear F8 F9 F10
        refine wp_block ?_
        refine wkLoop (fun m a0 w2 => ∃ j : Nat, j ≤ 5 ∧ m = 5 - j ∧ Fr a0 75 [(2, .string ⟨no.toArray⟩), (8, .slice (some ⟨g1, 0, none⟩) 5 5), (40, .agg (cells8 k)), (41, .int .i64 (i : Int)), (10, .int .i64 (i : Int)), (12, (.slice (some ⟨g2, 0, none⟩) [(bt k i), (bt no i), (bt no (32 + i : Nat))].length [(bt k i), (bt no i), (bt no (32 + i : Nat))].length)), (55, .int .i64 5), (56, .int .i64 (j : Int))] ∧ Mem w [(g2, isB 5 (cells8 [(bt k i), (bt no i), (bt no (32 + i : Nat))])), (g1, isB 54 (shC (shB k no i j))), (g0, isB 23 (cells8 k))] w2) 5 ⟨0, Nat.zero_le _, rfl, F11.sub ⟨rfl, rfl, rfl, rfl, rfl, rfl, rfl, rfl, trivial⟩, M2⟩ ?_
        rintro m a0 w1 ⟨j, hj, rfl, F0, M0⟩
        by_cases h2 : j < 5
        · skip
          refine wsl ?_
          refine sr (v := (.bool true)) F0 (run_lss rfl (F0.ev 56 rfl) (F0.ev 55 rfl) (decide_eq_true (by omega))) rfl rfl rfl fun a1 F1 => ?_
          refine sn ?_
          clear F0
          refine wp_seq ?_
          refine cts (F1.ev 57 rfl) ?_
          refine wp_seq ?_
          refine wp_block ?_
          refine wsl ?_
          refine mvS F1 rfl rfl rfl rfl rfl fun a2 F2 => ?_
          refine asS F2 rfl rfl rfl rfl rfl fun a3 F3 => ?_
          refine sn ?_
          clear F1 F2
          obtain ⟨KL, hKL⟩ : ∃ KL, KL = [kval (.slice (some ⟨g1, 0, none⟩) 5 5), kval (.int .i64 (j : Int)), kval (.int .i64 (i : Int)), kval (.slice (some ⟨g2, 0, none⟩) [(bt k i), (bt no i), (bt no (32 + i : Nat))].length [(bt k i), (bt no i), (bt no (32 + i : Nat))].length), kval (.slice (some ⟨g1, 0, none⟩) 5 5), kval (.int .i64 (j : Int)), kval (.pointer (some ⟨g1, j * 33, none⟩)), kval (.pointer (some ⟨g1, j * 33 + 0, none⟩)), kval (.int .u8 ((UInt8.ofNat (j + 1)).toNat : Int)), kval (.int .u8 ((evalS [(bt k i), (bt no i), (bt no (32 + i : Nat))] (UInt8.ofNat (j + 1))).toNat : Int)), kval (.pointer (some ⟨g1, j * 33, none⟩)), kval (.pointer (some ⟨g1, j * 33 + 1, none⟩)), kval (.pointer (some ⟨g1, j * 33 + 1 + i, none⟩))] := ⟨_, rfl⟩
          have K0 := getK hKL 0
          have K1 := getK hKL 1
          have K2 := getK hKL 2
          have K3 := getK hKL 3
          have K4 := getK hKL 4
          have K5 := getK hKL 5
          have K6 := getK hKL 6
          have K7 := getK hKL 7
          have K8 := getK hKL 8
          have K9 := getK hKL 9
          have K10 := getK hKL 10
          have K11 := getK hKL 11
          have K12 := getK hKL 12
          have HKL : KL.length ≤ 13 := by rw [hKL]; exact Nat.le_refl _
          clear hKL
          refine wp_region_kdTail2 75 13 (by kernel_rfl) (by kernel_rfl) (by kernel_rfl) (by kernel_rfl) F3.size KL HKL ?_ ?_
          · refine ⟨?_, ?_, ?_, ?_, ?_, ?_, ?_, ?_, ?_, ?_, ?_, ?_, ?_, trivial⟩
            · exact asksHY rfl fun a W hS hh hd => giv_run (run_mv rfl (eval_tmp (hh 8 _ rfl (F3.at 8 rfl)))) K0
            · exact asksHY rfl fun a W hS hh hd => giv_run (run_mv rfl (eval_tmp (hh 13 _ rfl (F3.at 13 rfl)))) K1
            · exact asksHY rfl fun a W hS hh hd => giv_run (run_mv rfl (eval_tmp (hh 10 _ rfl (F3.at 10 rfl)))) K2
            · exact asksHY rfl fun a W hS hh hd => giv_run (run_mv rfl (eval_tmp (hh 12 _ rfl (F3.at 12 rfl)))) K3
            · exact asksHY rfl fun a W hS hh hd => giv_run (run_mv rfl (eval_tmp (hh 8 _ rfl (F3.at 8 rfl)))) K4
            · exact asksHY rfl fun a W hS hh hd => giv_run (run_mv rfl (eval_tmp (hh 13 _ rfl (F3.at 13 rfl)))) K5
            · exact asksHY rfl fun a W hS hh hd => giv_run (run_idxSh (i := j) rfl (eval_tmp (hd.vl 4 63 (by kernel_rfl) K4)) (eval_tmp (hd.vl 5 64 (by kernel_rfl) K5)) rfl (by omega)) K6
            · exact asksHY rfl fun a W hS hh hd => giv_run (run_fldO (m := 1) (s := 0) rfl (eval_tmp (hd.vl 6 65 (by kernel_rfl) K6)) Tryd.underlying54 rfl rfl (by kernel_rfl) (by decide)) K7
            · exact asksHY rfl fun a W hS hh hd => giv_run (run_ldF rfl (eval_tmp (hd.vl 7 66 (by kernel_rfl) K7)) ((M0.grow hS).at 1 rfl) (by rw [shC_at (by omega), shB_x]) (by kernel_rfl)) K8
            · exact asksHY rfl fun a W hS hh hd => giv_call (run_call rfl Tryd.func65 (by kernel_rfl) rfl (mapE2 (eval_tmp (hd.vl 3 62 (by kernel_rfl) K3)) (eval_tmp (hd.vl 8 67 (by kernel_rfl) K8)))) (feval_any [(bt k i), (bt no i), (bt no (32 + i : Nat))] _ (UInt8.ofNat (j + 1)) W (slOfB rfl ((M0.grow hS).at 0 rfl)) (by simp)) K9
            · exact asksHY rfl fun a W hS hh hd => giv_run (run_idxSh (i := j) rfl (eval_tmp (hd.vl 0 59 (by kernel_rfl) K0)) (eval_tmp (hd.vl 1 60 (by kernel_rfl) K1)) rfl (by omega)) K10
            · exact asksHY rfl fun a W hS hh hd => giv_run (run_fldO (m := 32) (s := 1) rfl (eval_tmp (hd.vl 10 69 (by kernel_rfl) K10)) Tryd.underlying54 rfl rfl (by kernel_rfl) (by decide)) K11
            · exact asksHY rfl fun a W hS hh hd => giv_run (run_idxO (i := i) (cnt := 32) rfl (eval_tmp (hd.vl 11 70 (by kernel_rfl) K11)) (eval_tmp (hd.vl 2 61 (by kernel_rfl) K2)) rfl (by omega) Tryd.underlying23 (by kernel_rfl)) K12
          · intro a4 w2 hb2 hK
            have e0 := hK.hvl 0 59 rfl (by kernel_rfl) K0
            have e1 := hK.hvl 1 60 rfl (by kernel_rfl) K1
            have e2 := hK.hvl 2 61 rfl (by kernel_rfl) K2
            have e3 := hK.hvl 3 62 rfl (by kernel_rfl) K3
            have e4 := hK.hvl 4 63 rfl (by kernel_rfl) K4
            have e5 := hK.hvl 5 64 rfl (by kernel_rfl) K5
            have e6 := hK.hvl 6 65 rfl (by kernel_rfl) K6
            have e7 := hK.hvl 7 66 rfl (by kernel_rfl) K7
            have e8 := hK.hvl 8 67 rfl (by kernel_rfl) K8
            have e9 := hK.hvl 9 68 rfl (by kernel_rfl) K9
            have e10 := hK.hvl 10 69 rfl (by kernel_rfl) K10
            have e11 := hK.hvl 11 70 rfl (by kernel_rfl) K11
            have e12 := hK.hvl 12 71 rfl (by kernel_rfl) K12
            have F4 : Fr a4 75 [(2, (.string ⟨no.toArray⟩)), (8, (.slice (some ⟨g1, 0, none⟩) 5 5)), (10, (.int .i64 (i : Int))), (12, (.slice (some ⟨g2, 0, none⟩) [(bt k i), (bt no i), (bt no (32 + i : Nat))].length [(bt k i), (bt no i), (bt no (32 + i : Nat))].length)), (13, (.int .i64 (j : Int))), (40, (.agg (cells8 k))), (41, (.int .i64 (i : Int))), (55, (.int .i64 5)), (56, (.int .i64 (j : Int))), (57, (.bool true)), (58, (.int .i64 (j : Int))), (68, (.int .u8 ((evalS [(bt k i), (bt no i), (bt no (32 + i : Nat))] (UInt8.ofNat (j + 1))).toNat : Int))), (71, (.pointer (some ⟨g1, j * 33 + 1 + i, none⟩)))] := (hK.hfr F3 [_, _, _, _, _, _, _, _, _, _, _, _, _] ⟨e0, e1, e2, e3, e4, e5, e6, e7, e8, e9, e10, e11, e12, trivial⟩).sub ⟨rfl, rfl, rfl, rfl, rfl, rfl, rfl, rfl, rfl, rfl, rfl, rfl, rfl, trivial⟩
            have M1 := M0.grow hb2
            clear hK K0 e0 K1 e1 K2 e2 K3 e3 K4 e4 K5 e5 K6 e6 K7 e7 K8 e8 K9 e9 K10 e10 K11 e11 K12 e12 HKL
            simp only [List.drop_succ_cons, List.drop_zero]
            refine sqSetSh (j := 1) (f := shB k no i j) F4 M1 rfl rfl rfl (F4.ev 71 rfl) (F4.ev 68 rfl) rfl (by omega) fun a5 w3 hgr3 F5 M2 => ?_
            refine sqEnd ?_
            clear F3 F4 M0 M1
            refine bkEnd ?_
            refine nx ?_
            refine wp_region_lit ?_
            refine sr F5 (run_add (r := ((j + 1 : Nat) : Int)) rfl (F5.ev 56 rfl) rfl (by rw [IntKind.wrap_i64]; omega)) rfl rfl rfl fun a6 F6 => ?_
            refine mvS F6 rfl rfl rfl rfl rfl fun a7 F7 => ?_
            refine sn ?_
            clear F5 F6
            exact ⟨_, by omega, j + 1, by omega, rfl, F7.sub ⟨rfl, rfl, rfl, rfl, rfl, rfl, rfl, rfl, trivial⟩, by rw [← shB_step h1 (b := evalS [(bt k i), (bt no i), (bt no (32 + i : Nat))] (UInt8.ofNat (j + 1))) rfl]; exact M2⟩
        · have hje : j = 5 := by omega
          subst hje
          rw [shB_next] at M0
          refine wsl ?_
          refine sr (v := (.bool false)) F0 (run_lss rfl (F0.ev 56 rfl) (F0.ev 55 rfl) (decide_eq_false (by omega))) rfl rfl rfl fun a1 F1 => ?_
          refine sn ?_
          clear F0
          refine wp_seq ?_
          refine wp_cond_false (F1.ev 57 rfl) ?_
          refine wp_exit ?_
          refine nxExit ?_
          refine nxExit ?_
          refine bkHere ?_
          refine bkEnd ?_
          refine nx ?_
          refine wp_region_lit ?_
          refine sr F1 (run_add (r := ((i + 1 : Nat) : Int)) rfl (F1.ev 41 rfl) rfl (by rw [IntKind.wrap_i64]; omega)) rfl rfl rfl fun a2 F2 => ?_
          refine mvS F2 rfl rfl rfl rfl rfl fun a3 F3 => ?_
          refine sn ?_
          clear F1 F2
          exact ⟨_, by omega, i + 1, by omega, rfl, F3.sub ⟨rfl, rfl, rfl, rfl, trivial⟩, M0.sub (List.sublist_cons_self _ _)⟩
    · have hie : i = 32 := by omega
      subst hie
      refine wsl ?_
      refine sr (v := (.bool false)) F0 (run_lss rfl (F0.ev 41 rfl) rfl (decide_eq_false (by omega))) rfl rfl rfl fun a1 F1 => ?_
      refine sn ?_
      clear F0
      refine wp_seq ?_
      refine wp_cond_false (F1.ev 42 rfl) ?_
      refine wp_exit ?_
      refine nxExit ?_
      refine nxExit ?_
      refine bkHere ?_
      refine nx ?_
      refine wsl ?_
      refine mvS F1 rfl rfl rfl rfl rfl fun a2 F2 => ?_
      refine asS F2 rfl rfl rfl rfl rfl fun a3 F3 => ?_
      refine sr (v := (.int .i64 0)) F3 (run_as rfl rfl) rfl rfl rfl fun a4 F4 => ?_
      refine sn ?_
      clear F1 F2 F3
      refine wp_ret ?_
      exact ret2 F4 rfl rfl rfl ⟨⟨_, rfl, by rw [← shB_all]; exact (ownSh M0).owns⟩, M0.below⟩
end Go.Proofs.YtconhhhggckcbaaDoor
