/- The walk of the law KeysTold. Printed by gen_key19.py. -/
import Derived.Test.YtconhhhggckcbaaDoorRng5
namespace Go.Proofs.YtconhhhggckcbaaDoor
open Go.RowKit

attribute [local irreducible] sealS keyedS nonceS openS idS boxK bkeyS
set_option maxRecDepth 100000 in
set_option maxHeartbeats 1000000 in
theorem lawTold_any (K : List (List UInt8)) (v : Value) (n : Int) (w : World) (HG : Glob w) (hV : Sl w v 32 K.length (K.flatMap dgC)) (h32 : ∀ k ∈ K, k.length = 32) : Calls Tryd.prog 9 #[.agg #[v], .int .i64 n] w fun e w' => e = .returned (.bool true) ∧ Below w.heap.size w w' := by
  by_cases h200 : 200 < K.length
  · skip
    refine walk_enter Tryd.func9 rfl rfl rfl fun a0 F0 => ?_
    have M0 := Mem.new w
    refine wsl ?_
    refine sqNew (cs := #[v]) (t := 30) F0 M0 (wantedS rfl) (run_box rfl (F0.ev 0 rfl)) rfl (by decide) fun g0 a1 w1 hgg0 hb1 F1 M1 => ?_
    refine sr (v := (.bool false)) F1 (run_as rfl rfl) rfl rfl rfl fun a2 F2 => ?_
    refine sn ?_
    clear F0 F1 M0
    refine wp_seq ?_
    refine wsl ?_
    refine sqC (v := (.bool true)) F2 M1 (wantedS rfl) (run_call rfl Tryd.func12 (by kernel_rfl) rfl (mapE0 )) rfl (by decide) (alive38_any w1 (HG.below M1.below)) fun a3 w2 hb2 F3 M2 => ?_
    refine sr (v := (.bool false)) F3 (run_not rfl (F3.ev 9 rfl)) rfl rfl rfl fun a4 F4 => ?_
    refine sn ?_
    clear F2 F3 M1
    refine cfs (F4.ev 10 rfl) ?_
    refine wp_seq ?_
    refine wsl ?_
    refine sr F4 (run_fldA (m := 1) (s := 0) rfl (F4.ev 2 rfl) Tryd.underlying30 rfl rfl (by kernel_rfl) (by decide)) rfl rfl rfl fun a5 F5 => ?_
    refine sr (v := v) F5 (run_ldF rfl (F5.ev 11 rfl) (M2.at 0 rfl) rfl (by kernel_rfl)) rfl rfl rfl fun a6 F6 => ?_
    refine sr F6 (run_lenS rfl (F6.ev 12 rfl) (hV.below M2.below) rfl Tryd.underlying28) rfl rfl rfl fun a7 F7 => ?_
    refine sr (v := (.bool true)) F7 (run_gtr rfl (F7.ev 13 rfl) rfl (decide_eq_true (by omega))) rfl rfl rfl fun a8 F8 => ?_
    refine sn ?_
    clear F4 F5 F6 F7
    refine wp_cond_true (F8.ev 14 rfl) ?_
    refine wsl ?_
    refine sr (v := (.bool true)) F8 (run_as rfl rfl) rfl rfl rfl fun a9 F9 => ?_
    refine sn ?_
    clear F8
    refine wp_ret ?_
    refine nxRet ?_
    exact ret1 F9 rfl rfl ⟨rfl, M2.below⟩
  · skip
    refine walk_enter Tryd.func9 rfl rfl rfl fun a0 F0 => ?_
    have M0 := Mem.new w
    refine wsl ?_
    refine sqNew (cs := #[v]) (t := 30) F0 M0 (wantedS rfl) (run_box rfl (F0.ev 0 rfl)) rfl (by decide) fun g0 a1 w1 hgg0 hb1 F1 M1 => ?_
    refine sr (v := (.bool false)) F1 (run_as rfl rfl) rfl rfl rfl fun a2 F2 => ?_
    refine sn ?_
    clear F0 F1 M0
    refine wp_seq ?_
    refine wsl ?_
    refine sqC (v := (.bool true)) F2 M1 (wantedS rfl) (run_call rfl Tryd.func12 (by kernel_rfl) rfl (mapE0 )) rfl (by decide) (alive38_any w1 (HG.below M1.below)) fun a3 w2 hb2 F3 M2 => ?_
    refine sr (v := (.bool false)) F3 (run_not rfl (F3.ev 9 rfl)) rfl rfl rfl fun a4 F4 => ?_
    refine sn ?_
    clear F2 F3 M1
    refine cfs (F4.ev 10 rfl) ?_
    refine wp_seq ?_
    refine wsl ?_
    refine sr F4 (run_fldA (m := 1) (s := 0) rfl (F4.ev 2 rfl) Tryd.underlying30 rfl rfl (by kernel_rfl) (by decide)) rfl rfl rfl fun a5 F5 => ?_
    refine sr (v := v) F5 (run_ldF rfl (F5.ev 11 rfl) (M2.at 0 rfl) rfl (by kernel_rfl)) rfl rfl rfl fun a6 F6 => ?_
    refine sr F6 (run_lenS rfl (F6.ev 12 rfl) (hV.below M2.below) rfl Tryd.underlying28) rfl rfl rfl fun a7 F7 => ?_
    refine sr (v := (.bool false)) F7 (run_gtr rfl (F7.ev 13 rfl) rfl (decide_eq_false (by omega))) rfl rfl rfl fun a8 F8 => ?_
    refine sn ?_
    clear F4 F5 F6 F7
    refine cfs (F8.ev 14 rfl) ?_
    refine wsl ?_
    refine sr F8 (run_ldB rfl (F8.ev 2 rfl) (M2.at 0 rfl) Tryd.underlying30 rfl szKy rfl) rfl rfl rfl fun a9 F9 => ?_
    refine mvS F9 rfl rfl rfl rfl rfl fun a10 F10 => ?_
    refine sqC (v := (.tuple #[(.agg (cells8 ((boxK K n).1))), (.int .i64 ((boxK K n).2))])) F10 M2 (wantedS rfl) (run_call rfl Tryd.func29 (by kernel_rfl) rfl (mapE2 (F10.ev 16 rfl) (F10.ev 17 rfl))) rfl (by decide) (kbox_any K v n w2 (HG.below M2.below) (hV.below M2.below) h32) fun a11 w3 hb3 F11 M3 => ?_
    refine mvS F11 rfl rfl rfl rfl rfl fun a12 F12 => ?_
    refine sr (v := (.agg (cells8 ((boxK K n).1)))) F12 (run_ext rfl (F12.ev 15 rfl) rfl) rfl rfl rfl fun a13 F13 => ?_
    refine sr (v := (.int .i64 ((boxK K n).2))) F13 (run_ext rfl (F13.ev 15 rfl) rfl) rfl rfl rfl fun a14 F14 => ?_
    refine sqNew (cs := (cells8 (List.replicate 32 0))) (t := 23) F14 M3 (wantedS rfl) (run_alloc rfl (by kernel_rfl)) rfl (by decide) fun g1 a15 w4 hgg1 hb4 F15 M4 => ?_
    refine sqStore (i := 0) F15 M4 rfl rfl rfl (F15.ev 5 rfl) (F15.ev 19 rfl) rfl sz32k (szOf (boxK_len _ _)) (szOf List.length_replicate) (cells8_one _) fun a16 w5 F16 M5 => ?_
    refine asS F16 rfl rfl rfl rfl rfl fun a17 F17 => ?_
    refine sn ?_
    clear F8 F9 F10 F11 F12 F13 F14 F15 F16 M2 M3 M4
    refine wsl ?_
    refine sr F17 (run_ldB rfl (F17.ev 2 rfl) (M5.at 1 rfl) Tryd.underlying30 rfl szKy rfl) rfl rfl rfl fun a18 F18 => ?_
    refine mvS F18 rfl rfl rfl rfl rfl fun a19 F19 => ?_
    refine sqC (v := (.tuple #[(.agg (cells8 ((boxK K n).1))), (.int .i64 ((boxK K n).2))])) F19 M5 (wantedS rfl) (run_call rfl Tryd.func30 (by kernel_rfl) rfl (mapE2 (F19.ev 22 rfl) (F19.ev 23 rfl))) rfl (by decide) (rbox38_any K v n w5 (hV.below M5.below) h32) fun a20 w6 hb6 F20 M6 => ?_
    refine mvS F20 rfl rfl rfl rfl rfl fun a21 F21 => ?_
    refine sr (v := (.agg (cells8 ((boxK K n).1)))) F21 (run_ext rfl (F21.ev 21 rfl) rfl) rfl rfl rfl fun a22 F22 => ?_
    refine sr (v := (.int .i64 ((boxK K n).2))) F22 (run_ext rfl (F22.ev 21 rfl) rfl) rfl rfl rfl fun a23 F23 => ?_
    refine sqNew (cs := (cells8 (List.replicate 32 0))) (t := 23) F23 M6 (wantedS rfl) (run_alloc rfl (by kernel_rfl)) rfl (by decide) fun g2 a24 w7 hgg2 hb7 F24 M7 => ?_
    refine sqStore (i := 0) F24 M7 rfl rfl rfl (F24.ev 7 rfl) (F24.ev 25 rfl) rfl sz32k (szOf (boxK_len _ _)) (szOf List.length_replicate) (cells8_one _) fun a25 w8 F25 M8 => ?_
    refine asS F25 rfl rfl rfl rfl rfl fun a26 F26 => ?_
    refine sn ?_
    clear F17 F18 F19 F20 F21 F22 F23 F24 F25 M5 M6 M7
    refine wp_seq ?_
    obtain ⟨KL, hKL⟩ : ∃ KL, KL = [kval (.agg #[v]), kval (.agg (cells8 (idS K))), kval (.agg #[v]), kval (.agg (cells8 (idS K))), kval (.bool true), kval (.bool true), kval (.agg (cells8 ((boxK K n).1))), kval (.agg (cells8 ((boxK K n).1))), kval (.bool true), kval (.bool true), kval (.bool true), kval (.int .i64 ((boxK K n).2)), kval (.int .i64 ((boxK K n).2)), kval (.bool true), kval (.bool true), kval (.bool true)] := ⟨_, rfl⟩
    have K0 := getK hKL 0
    have K1 := getK hKL 1
    have K2 := getK hKL 2
    have K3 := getK hKL 3
    have K4 := getK hKL 4
    have K5 := getK hKL 5
    have K6 := getK hKL 6
    have K7 := getK hKL 7
    have K8 := getK hKL 8
    have K9 := getK hKL 9
    have K10 := getK hKL 10
    have K11 := getK hKL 11
    have K12 := getK hKL 12
    have K13 := getK hKL 13
    have K14 := getK hKL 14
    have K15 := getK hKL 15
    clear hKL
    refine wp_region_kd 42 (by kernel_rfl) (by kernel_rfl) (by kernel_rfl) F26.size KL ?_ ?_
    · refine ⟨?_, ?_, ?_, ?_, ?_, ?_, ?_, ?_, ?_, ?_, ?_, ?_, ?_, ?_, ?_, ?_, trivial⟩
      · exact asksY rfl fun a W hS hh hd => giv_run (run_ldB rfl (eval_tmp (hh 2 _ rfl (F26.at 2 rfl))) ((M8.grow hS).at 2 rfl) Tryd.underlying30 rfl szKy rfl) K0
      · exact asksY rfl fun a W hS hh hd => giv_call (run_call rfl Tryd.func31 (by kernel_rfl) rfl (mapE1 (eval_tmp (hd.vl 0 27 (by kernel_rfl) K0)))) (kid_any K v W (HG.below (M8.grow hS).below) (hV.below (M8.grow hS).below) h32) K1
      · exact asksY rfl fun a W hS hh hd => giv_run (run_ldB rfl (eval_tmp (hh 2 _ rfl (F26.at 2 rfl))) ((M8.grow hS).at 2 rfl) Tryd.underlying30 rfl szKy rfl) K2
      · exact asksY rfl fun a W hS hh hd => giv_call (run_call rfl Tryd.func32 (by kernel_rfl) rfl (mapE1 (eval_tmp (hd.vl 2 29 (by kernel_rfl) K2)))) (rid_any K v W (hV.below (M8.grow hS).below) h32) K3
      · exact asksY rfl fun a W hS hh hd => giv_run (run_eqKB (idS_len _) (idS_len _) (beq_self_eq_true _) rfl (eval_tmp (hd.vl 1 28 (by kernel_rfl) K1)) (eval_tmp (hd.vl 3 30 (by kernel_rfl) K3))) K4
      · exact asksY rfl fun a W hS hh hd => giv_run (run_mv rfl (eval_tmp (hd.vl 4 31 (by kernel_rfl) K4))) K5
      · refine asks_mk fun a W hS hh hd => ⟨wanted_of (j := 5) (s := 32) (by kernel_rfl) (hd.vl 5 32 (by kernel_rfl) K5), ?_⟩
        exact giv_run (run_ldB rfl (eval_tmp (hh 5 _ rfl (F26.at 5 rfl))) ((M8.grow hS).at 1 rfl) Tryd.underlying23 rfl sz32k (szOf (boxK_len _ _))) K6
      · refine asks_mk fun a W hS hh hd => ⟨wanted_of (j := 5) (s := 32) (by kernel_rfl) (hd.vl 5 32 (by kernel_rfl) K5), ?_⟩
        exact giv_run (run_ldB rfl (eval_tmp (hh 7 _ rfl (F26.at 7 rfl))) ((M8.grow hS).at 0 rfl) Tryd.underlying23 rfl sz32k (szOf (boxK_len _ _))) K7
      · refine asks_mk fun a W hS hh hd => ⟨wanted_of (j := 5) (s := 32) (by kernel_rfl) (hd.vl 5 32 (by kernel_rfl) K5), ?_⟩
        exact giv_run (run_eqKB (boxK_len _ _) (boxK_len _ _) (beq_self_eq_true _) rfl (eval_tmp (hd.vl 6 33 (by kernel_rfl) K6)) (eval_tmp (hd.vl 7 34 (by kernel_rfl) K7))) K8
      · exact asksY rfl fun a W hS hh hd => giv_run (run_pick rfl (eval_tmp (hd.vl 5 32 (by kernel_rfl) K5)) (eval_tmp (hd.vl 8 35 (by kernel_rfl) K8)) rfl) K9
      · exact asksY rfl fun a W hS hh hd => giv_run (run_mv rfl (eval_tmp (hd.vl 9 36 (by kernel_rfl) K9))) K10
      · refine asks_mk fun a W hS hh hd => ⟨wanted_of (j := 10) (s := 37) (by kernel_rfl) (hd.vl 10 37 (by kernel_rfl) K10), ?_⟩
        exact giv_run (run_mv rfl (eval_tmp (hh 6 _ rfl (F26.at 6 rfl)))) K11
      · refine asks_mk fun a W hS hh hd => ⟨wanted_of (j := 10) (s := 37) (by kernel_rfl) (hd.vl 10 37 (by kernel_rfl) K10), ?_⟩
        exact giv_run (run_mv rfl (eval_tmp (hh 8 _ rfl (F26.at 8 rfl)))) K12
      · refine asks_mk fun a W hS hh hd => ⟨wanted_of (j := 10) (s := 37) (by kernel_rfl) (hd.vl 10 37 (by kernel_rfl) K10), ?_⟩
        exact giv_run (run_eqi rfl (eval_tmp (hd.vl 11 38 (by kernel_rfl) K11)) (eval_tmp (hd.vl 12 39 (by kernel_rfl) K12)) (beq_self_eq_true _)) K13
      · exact asksY rfl fun a W hS hh hd => giv_run (run_pick rfl (eval_tmp (hd.vl 10 37 (by kernel_rfl) K10)) (eval_tmp (hd.vl 13 40 (by kernel_rfl) K13)) rfl) K14
      · exact asksY rfl fun a W hS hh hd => giv_run (run_as rfl (eval_tmp (hd.vl 14 41 (by kernel_rfl) K14))) K15
    · intro a27 w9 hb9 hK
      have e0 := hK.vl 0 27 (by kernel_rfl) K0
      have e1 := hK.vl 1 28 (by kernel_rfl) K1
      have e2 := hK.vl 2 29 (by kernel_rfl) K2
      have e3 := hK.vl 3 30 (by kernel_rfl) K3
      have e4 := hK.vl 4 31 (by kernel_rfl) K4
      have e5 := hK.vl 5 32 (by kernel_rfl) K5
      have e6 := hK.vl 6 33 (by kernel_rfl) K6
      have e7 := hK.vl 7 34 (by kernel_rfl) K7
      have e8 := hK.vl 8 35 (by kernel_rfl) K8
      have e9 := hK.vl 9 36 (by kernel_rfl) K9
      have e10 := hK.vl 10 37 (by kernel_rfl) K10
      have e11 := hK.vl 11 38 (by kernel_rfl) K11
      have e12 := hK.vl 12 39 (by kernel_rfl) K12
      have e13 := hK.vl 13 40 (by kernel_rfl) K13
      have e14 := hK.vl 14 41 (by kernel_rfl) K14
      have e15 := hK.vl 15 4 (by kernel_rfl) K15
      have F27 : Fr a27 42 [(0, (.agg #[v])), (1, (.int .i64 n)), (2, (.pointer (some ⟨g0, 0, none⟩))), (4, (.bool true)), (5, (.pointer (some ⟨g1, 0, none⟩))), (7, (.pointer (some ⟨g2, 0, none⟩))), (9, (.bool true)), (10, (.bool false)), (11, (.pointer (some ⟨g0, 0, none⟩))), (12, v), (13, (.int .i64 (K.length : Int))), (14, (.bool false)), (15, (.tuple #[(.agg (cells8 ((boxK K n).1))), (.int .i64 ((boxK K n).2))])), (16, (.agg #[v])), (17, (.int .i64 n)), (18, (.tuple #[(.agg (cells8 ((boxK K n).1))), (.int .i64 ((boxK K n).2))])), (19, (.agg (cells8 ((boxK K n).1)))), (20, (.int .i64 ((boxK K n).2))), (21, (.tuple #[(.agg (cells8 ((boxK K n).1))), (.int .i64 ((boxK K n).2))])), (22, (.agg #[v])), (23, (.int .i64 n)), (24, (.tuple #[(.agg (cells8 ((boxK K n).1))), (.int .i64 ((boxK K n).2))])), (25, (.agg (cells8 ((boxK K n).1)))), (26, (.int .i64 ((boxK K n).2)))] := (hK.fr F26 [_, _, _, _, _, _, _, _, _, _, _, _, _, _, _, _] ⟨e0, e1, e2, e3, e4, e5, e6, e7, e8, e9, e10, e11, e12, e13, e14, e15, trivial⟩).sub ⟨rfl, rfl, rfl, rfl, rfl, rfl, rfl, rfl, rfl, rfl, rfl, rfl, rfl, rfl, rfl, rfl, rfl, rfl, rfl, rfl, rfl, rfl, rfl, rfl, trivial⟩
      have M9 := M8.grow hb9
      clear hK K0 e0 K1 e1 K2 e2 K3 e3 K4 e4 K5 e5 K6 e6 K7 e7 K8 e8 K9 e9 K10 e10 K11 e11 K12 e12 K13 e13 K14 e14 K15 e15
      clear F26 M8
      refine nx ?_
      refine wp_ret ?_
      exact ret1 F27 rfl rfl ⟨rfl, M9.below⟩
end Go.Proofs.YtconhhhggckcbaaDoor
