/- The law ChunkCuts. Printed by gen_chk8.py. -/
import Derived.Test.YtdjjiblijbjobaaDoorChk3
import Derived.Test.YtdjjiblijbjobaaDoorChk1
namespace Go.Proofs.YtdjjiblijbjobaaDoor
open Go.RowKit

set_option maxRecDepth 100000 in
set_option maxHeartbeats 1000000 in
theorem lawCuts39_any (K : List (List UInt8)) (v : Value) (d : List UInt8) (w : World) (HG : Glob w) (hV : Sl w v 32 K.length (K.flatMap dgC)) (h32 : ∀ k ∈ K, k.length = 32) (_hd : d.length ≤ maxLen) : Calls Tryd.prog 5 #[.agg #[v], .string ⟨d.toArray⟩] w fun e w' => e = .returned (.bool true) ∧ Below w.heap.size w w' := by
  by_cases h1 : 1500 < d.length
  · skip
    refine walk_enter Tryd.func5 rfl rfl rfl fun a0 F0 => ?_
    have M0 := Mem.new w
    refine wsl ?_
    refine sqNew (cs := #[v]) (t := 31) F0 M0 (wantedS rfl) (run_box rfl (F0.ev 0 rfl)) rfl (by decide) fun g0 a1 w1 hgg0 hb1 F1 M1 => ?_
    refine sr (v := (.bool false)) F1 (run_as rfl rfl) rfl rfl rfl fun a2 F2 => ?_
    refine sn ?_
    clear F0 F1 M0
    refine wp_seq ?_
    refine wsl ?_
    refine mvS F2 rfl rfl rfl rfl rfl fun a3 F3 => ?_
    refine sr F3 (run_len rfl (F3.ev 5 rfl) rfl Tryd.underlying9) rfl rfl rfl fun a4 F4 => ?_
    refine sr (v := (.bool true)) F4 (run_gtr rfl (F4.ev 6 rfl) rfl (decide_eq_true (by omega))) rfl rfl rfl fun a5 F5 => ?_
    refine mvS F5 rfl rfl rfl rfl rfl fun a6 F6 => ?_
    refine sqSkip F6 (unwantedG F6 rfl rfl rfl rfl rfl) rfl (by decide) fun a7 F7 => ?_
    refine sqSkip F7 (unwantedG F7 rfl rfl rfl rfl rfl) rfl (by decide) fun a8 F8 => ?_
    refine sqSkip F8 (unwantedG F8 rfl rfl rfl rfl rfl) rfl (by decide) fun a9 F9 => ?_
    refine sqSkip F9 (unwantedG F9 rfl rfl rfl rfl rfl) rfl (by decide) fun a10 F10 => ?_
    refine sr (v := (.bool true)) F10 (run_pick rfl (F10.ev 8 rfl) rfl (F10.ev 12 rfl)) rfl rfl rfl fun a11 F11 => ?_
    refine sn ?_
    clear F2 F3 F4 F5 F6 F7 F8 F9 F10
    refine wp_cond_true (F11.ev 13 rfl) ?_
    refine wsl ?_
    refine sqC (v := (.bool true)) F11 M1 (wantedS rfl) (run_call rfl Tryd.func11 (by kernel_rfl) rfl (mapE0 )) rfl (by decide) (fixed39_any w1) fun a12 w2 hb2 F12 M2 => ?_
    refine asS F12 rfl rfl rfl rfl rfl fun a13 F13 => ?_
    refine sn ?_
    clear F11 F12 M1
    refine wp_ret ?_
    refine nxRet ?_
    exact ret1 F13 rfl rfl ⟨rfl, M2.below⟩
  by_cases h3 : 20 < K.length
  · skip
    refine walk_enter Tryd.func5 rfl rfl rfl fun a0 F0 => ?_
    have M0 := Mem.new w
    refine wsl ?_
    refine sqNew (cs := #[v]) (t := 31) F0 M0 (wantedS rfl) (run_box rfl (F0.ev 0 rfl)) rfl (by decide) fun g0 a1 w1 hgg0 hb1 F1 M1 => ?_
    refine sr (v := (.bool false)) F1 (run_as rfl rfl) rfl rfl rfl fun a2 F2 => ?_
    refine sn ?_
    clear F0 F1 M0
    refine wp_seq ?_
    refine wsl ?_
    refine mvS F2 rfl rfl rfl rfl rfl fun a3 F3 => ?_
    refine sr F3 (run_len rfl (F3.ev 5 rfl) rfl Tryd.underlying9) rfl rfl rfl fun a4 F4 => ?_
    refine sr (v := (.bool false)) F4 (run_gtr rfl (F4.ev 6 rfl) rfl (decide_eq_false (by omega))) rfl rfl rfl fun a5 F5 => ?_
    refine mvS F5 rfl rfl rfl rfl rfl fun a6 F6 => ?_
    refine sq (v := (.pointer (some ⟨g0, 0, none⟩))) F6 (wantedG F6 rfl rfl rfl rfl rfl) (run_fldA (m := 1) (s := 0) rfl (F6.ev 2 rfl) Tryd.underlying31 rfl rfl (by kernel_rfl) (by decide)) rfl (by decide) fun a7 F7 => ?_
    refine sq (v := v) F7 (wantedG F7 rfl rfl rfl rfl rfl) (run_ldF rfl (F7.ev 9 rfl) (M1.at 0 rfl) rfl (by kernel_rfl)) rfl (by decide) fun a8 F8 => ?_
    refine sq (v := (.int .i64 (K.length : Int))) F8 (wantedG F8 rfl rfl rfl rfl rfl) (run_lenS rfl (F8.ev 10 rfl) (hV.below M1.below) rfl Tryd.underlying29) rfl (by decide) fun a9 F9 => ?_
    refine sq (v := (.bool true)) F9 (wantedG F9 rfl rfl rfl rfl rfl) (run_gtr rfl (F9.ev 11 rfl) rfl (decide_eq_true (by omega))) rfl (by decide) fun a10 F10 => ?_
    refine sr (v := (.bool true)) F10 (run_pick rfl (F10.ev 8 rfl) rfl (F10.ev 12 rfl)) rfl rfl rfl fun a11 F11 => ?_
    refine sn ?_
    clear F2 F3 F4 F5 F6 F7 F8 F9 F10
    refine wp_cond_true (F11.ev 13 rfl) ?_
    refine wsl ?_
    refine sqC (v := (.bool true)) F11 M1 (wantedS rfl) (run_call rfl Tryd.func11 (by kernel_rfl) rfl (mapE0 )) rfl (by decide) (fixed39_any w1) fun a12 w2 hb2 F12 M2 => ?_
    refine asS F12 rfl rfl rfl rfl rfl fun a13 F13 => ?_
    refine sn ?_
    clear F11 F12 M1
    refine wp_ret ?_
    refine nxRet ?_
    exact ret1 F13 rfl rfl ⟨rfl, M2.below⟩
  have hcl := cutS_len _ d (Nat.le_refl _)
  obtain ⟨N, hN⟩ : ∃ N, nameC K d = N := ⟨_, rfl⟩
  refine walk_enter Tryd.func5 rfl rfl rfl fun a0 F0 => ?_
  have M0 := Mem.new w
  refine wsl ?_
  refine sqNew (cs := #[v]) (t := 31) F0 M0 (wantedS rfl) (run_box rfl (F0.ev 0 rfl)) rfl (by decide) fun g0 a1 w1 hgg0 hb1 F1 M1 => ?_
  refine sr (v := (.bool false)) F1 (run_as rfl rfl) rfl rfl rfl fun a2 F2 => ?_
  refine sn ?_
  clear F0 F1 M0
  refine wp_seq ?_
  refine wsl ?_
  refine mvS F2 rfl rfl rfl rfl rfl fun a3 F3 => ?_
  refine sr F3 (run_len rfl (F3.ev 5 rfl) rfl Tryd.underlying9) rfl rfl rfl fun a4 F4 => ?_
  refine sr (v := (.bool false)) F4 (run_gtr rfl (F4.ev 6 rfl) rfl (decide_eq_false (by omega))) rfl rfl rfl fun a5 F5 => ?_
  refine mvS F5 rfl rfl rfl rfl rfl fun a6 F6 => ?_
  refine sq (v := (.pointer (some ⟨g0, 0, none⟩))) F6 (wantedG F6 rfl rfl rfl rfl rfl) (run_fldA (m := 1) (s := 0) rfl (F6.ev 2 rfl) Tryd.underlying31 rfl rfl (by kernel_rfl) (by decide)) rfl (by decide) fun a7 F7 => ?_
  refine sq (v := v) F7 (wantedG F7 rfl rfl rfl rfl rfl) (run_ldF rfl (F7.ev 9 rfl) (M1.at 0 rfl) rfl (by kernel_rfl)) rfl (by decide) fun a8 F8 => ?_
  refine sq (v := (.int .i64 (K.length : Int))) F8 (wantedG F8 rfl rfl rfl rfl rfl) (run_lenS rfl (F8.ev 10 rfl) (hV.below M1.below) rfl Tryd.underlying29) rfl (by decide) fun a9 F9 => ?_
  refine sq (v := (.bool false)) F9 (wantedG F9 rfl rfl rfl rfl rfl) (run_gtr rfl (F9.ev 11 rfl) rfl (decide_eq_false (by omega))) rfl (by decide) fun a10 F10 => ?_
  refine sr (v := (.bool false)) F10 (run_pick rfl (F10.ev 8 rfl) rfl (F10.ev 12 rfl)) rfl rfl rfl fun a11 F11 => ?_
  refine sn ?_
  clear F2 F3 F4 F5 F6 F7 F8 F9 F10
  refine cfs (F11.ev 13 rfl) ?_
  refine wp_seq ?_
  obtain ⟨KL, hKL⟩ : ∃ KL, KL = [kval (.bool true), kval (.bool true), kval (.string ⟨d.toArray⟩), kstrs (cutS d), kval (.string ⟨d.toArray⟩), kstrs (cutS d), kval (.bool true), kval (.bool true), kval (.bool true), kval (.agg #[v]), kval (.string ⟨d.toArray⟩), kval (.string ⟨N.toArray⟩), kval (.agg #[v]), kval (.string ⟨d.toArray⟩), kval (.string ⟨N.toArray⟩), kval (.bool true), kval (.bool true), kval (.bool true)] := ⟨_, rfl⟩
  have K0 := getK hKL 0
  have K1 := getK hKL 1
  have K2 := getK hKL 2
  have K3 := getK hKL 3
  have K4 := getK hKL 4
  have K5 := getK hKL 5
  have K6 := getK hKL 6
  have K7 := getK hKL 7
  have K8 := getK hKL 8
  have K9 := getK hKL 9
  have K10 := getK hKL 10
  have K11 := getK hKL 11
  have K12 := getK hKL 12
  have K13 := getK hKL 13
  have K14 := getK hKL 14
  have K15 := getK hKL 15
  have K16 := getK hKL 16
  have K17 := getK hKL 17
  clear hKL
  refine wp_region_kd 32 (by kernel_rfl) (by kernel_rfl) (by kernel_rfl) F11.size KL ?_ ?_
  · refine ⟨?_, ?_, ?_, ?_, ?_, ?_, ?_, ?_, ?_, ?_, ?_, ?_, ?_, ?_, ?_, ?_, ?_, ?_, trivial⟩
    · exact asksY rfl fun a W hS hh hd => giv_call (run_call rfl Tryd.func11 (by kernel_rfl) rfl (mapE0 )) (fixed39_any W) K0
    · exact asksY rfl fun a W hS hh hd => giv_run (run_mv rfl (eval_tmp (hd.vl 0 15 (by kernel_rfl) K0))) K1
    · refine asks_mk fun a W hS hh hd => ⟨wanted_of (j := 1) (s := 16) (by kernel_rfl) (hd.vl 1 16 (by kernel_rfl) K1), ?_⟩
      exact giv_run (run_mv rfl (eval_tmp (hh 1 _ rfl (F11.at 1 rfl)))) K2
    · refine asks_mk fun a W hS hh hd => ⟨wanted_of (j := 1) (s := 16) (by kernel_rfl) (hd.vl 1 16 (by kernel_rfl) K1), ?_⟩
      exact giv_callS (run_call rfl Tryd.func12 (by kernel_rfl) rfl (mapE1 (eval_tmp (hd.vl 2 17 (by kernel_rfl) K2)))) (ccut_any d W (by omega)) K3
    · refine asks_mk fun a W hS hh hd => ⟨wanted_of (j := 1) (s := 16) (by kernel_rfl) (hd.vl 1 16 (by kernel_rfl) K1), ?_⟩
      exact giv_run (run_mv rfl (eval_tmp (hh 1 _ rfl (F11.at 1 rfl)))) K4
    · refine asks_mk fun a W hS hh hd => ⟨wanted_of (j := 1) (s := 16) (by kernel_rfl) (hd.vl 1 16 (by kernel_rfl) K1), ?_⟩
      exact giv_callS (run_call rfl Tryd.func15 (by kernel_rfl) rfl (mapE1 (eval_tmp (hd.vl 4 19 (by kernel_rfl) K4)))) (rcut39_any d W (by omega)) K5
    · refine asks_mk fun a W hS hh hd => ⟨wanted_of (j := 1) (s := 16) (by kernel_rfl) (hd.vl 1 16 (by kernel_rfl) K1), ?_⟩
      obtain ⟨v3, e3, s3⟩ := hd.strs (j := 3) (s := 18) (by kernel_rfl) K3
      obtain ⟨v5, e5, s5⟩ := hd.strs (j := 5) (s := 20) (by kernel_rfl) K5
      exact giv_call (run_call rfl Tryd.func14 (by kernel_rfl) rfl (mapE2 (eval_tmp e3) (eval_tmp e5))) (rsame39_any (cutS d) v3 v5 W s3 s5 (by omega)) K6
    · exact asksY rfl fun a W hS hh hd => giv_run (run_pick rfl (eval_tmp (hd.vl 1 16 (by kernel_rfl) K1)) (eval_tmp (hd.vl 6 21 (by kernel_rfl) K6)) rfl) K7
    · exact asksY rfl fun a W hS hh hd => giv_run (run_mv rfl (eval_tmp (hd.vl 7 22 (by kernel_rfl) K7))) K8
    · refine asks_mk fun a W hS hh hd => ⟨wanted_of (j := 8) (s := 23) (by kernel_rfl) (hd.vl 8 23 (by kernel_rfl) K8), ?_⟩
      exact giv_run (run_ldB rfl (eval_tmp (hh 2 _ rfl (F11.at 2 rfl))) ((M1.grow hS).at 0 rfl) Tryd.underlying31 rfl szKy rfl) K9
    · refine asks_mk fun a W hS hh hd => ⟨wanted_of (j := 8) (s := 23) (by kernel_rfl) (hd.vl 8 23 (by kernel_rfl) K8), ?_⟩
      exact giv_run (run_mv rfl (eval_tmp (hh 1 _ rfl (F11.at 1 rfl)))) K10
    · refine asks_mk fun a W hS hh hd => ⟨wanted_of (j := 8) (s := 23) (by kernel_rfl) (hd.vl 8 23 (by kernel_rfl) K8), ?_⟩
      exact giv_call (run_call rfl Tryd.func16 (by kernel_rfl) rfl (mapE2 (eval_tmp (hd.vl 9 24 (by kernel_rfl) K9)) (eval_tmp (hd.vl 10 25 (by kernel_rfl) K10)))) ((by have h := cname_any K v d W (HG.below (M1.grow hS).below) (hV.below (M1.grow hS).below) h32 (by omega); rw [hN] at h; exact h)) K11
    · refine asks_mk fun a W hS hh hd => ⟨wanted_of (j := 8) (s := 23) (by kernel_rfl) (hd.vl 8 23 (by kernel_rfl) K8), ?_⟩
      exact giv_run (run_ldB rfl (eval_tmp (hh 2 _ rfl (F11.at 2 rfl))) ((M1.grow hS).at 0 rfl) Tryd.underlying31 rfl szKy rfl) K12
    · refine asks_mk fun a W hS hh hd => ⟨wanted_of (j := 8) (s := 23) (by kernel_rfl) (hd.vl 8 23 (by kernel_rfl) K8), ?_⟩
      exact giv_run (run_mv rfl (eval_tmp (hh 1 _ rfl (F11.at 1 rfl)))) K13
    · refine asks_mk fun a W hS hh hd => ⟨wanted_of (j := 8) (s := 23) (by kernel_rfl) (hd.vl 8 23 (by kernel_rfl) K8), ?_⟩
      exact giv_call (run_call rfl Tryd.func17 (by kernel_rfl) rfl (mapE2 (eval_tmp (hd.vl 12 27 (by kernel_rfl) K12)) (eval_tmp (hd.vl 13 28 (by kernel_rfl) K13)))) ((by have h := rname39_any K v d W (hV.below (M1.grow hS).below) h32 (by omega); rw [hN] at h; exact h)) K14
    · refine asks_mk fun a W hS hh hd => ⟨wanted_of (j := 8) (s := 23) (by kernel_rfl) (hd.vl 8 23 (by kernel_rfl) K8), ?_⟩
      exact giv_run (run_eqs rfl (eval_tmp (hd.vl 11 26 (by kernel_rfl) K11)) (eval_tmp (hd.vl 14 29 (by kernel_rfl) K14)) (by simp)) K15
    · exact asksY rfl fun a W hS hh hd => giv_run (run_pick rfl (eval_tmp (hd.vl 8 23 (by kernel_rfl) K8)) (eval_tmp (hd.vl 15 30 (by kernel_rfl) K15)) rfl) K16
    · exact asksY rfl fun a W hS hh hd => giv_run (run_as rfl (eval_tmp (hd.vl 16 31 (by kernel_rfl) K16))) K17
  · intro a12 w2 hb2 hK
    have e0 := hK.vl 0 15 (by kernel_rfl) K0
    have e1 := hK.vl 1 16 (by kernel_rfl) K1
    have e2 := hK.vl 2 17 (by kernel_rfl) K2
    obtain ⟨v1, e3, hsv1⟩ := hK.strs (i := 3) (s := 18) (by kernel_rfl) K3
    have e4 := hK.vl 4 19 (by kernel_rfl) K4
    obtain ⟨v2, e5, hsv2⟩ := hK.strs (i := 5) (s := 20) (by kernel_rfl) K5
    have e6 := hK.vl 6 21 (by kernel_rfl) K6
    have e7 := hK.vl 7 22 (by kernel_rfl) K7
    have e8 := hK.vl 8 23 (by kernel_rfl) K8
    have e9 := hK.vl 9 24 (by kernel_rfl) K9
    have e10 := hK.vl 10 25 (by kernel_rfl) K10
    have e11 := hK.vl 11 26 (by kernel_rfl) K11
    have e12 := hK.vl 12 27 (by kernel_rfl) K12
    have e13 := hK.vl 13 28 (by kernel_rfl) K13
    have e14 := hK.vl 14 29 (by kernel_rfl) K14
    have e15 := hK.vl 15 30 (by kernel_rfl) K15
    have e16 := hK.vl 16 31 (by kernel_rfl) K16
    have e17 := hK.vl 17 4 (by kernel_rfl) K17
    have F12 : Fr a12 32 [(0, (.agg #[v])), (1, (.string ⟨d.toArray⟩)), (2, (.pointer (some ⟨g0, 0, none⟩))), (4, (.bool true)), (5, (.string ⟨d.toArray⟩)), (6, (.int .i64 (d.length : Int))), (7, (.bool false)), (8, (.bool false)), (9, (.pointer (some ⟨g0, 0, none⟩))), (10, v), (11, (.int .i64 (K.length : Int))), (12, (.bool false)), (13, (.bool false))] := (hK.fr F11 [_, _, _, _, _, _, _, _, _, _, _, _, _, _, _, _, _, _] ⟨e0, e1, e2, e3, e4, e5, e6, e7, e8, e9, e10, e11, e12, e13, e14, e15, e16, e17, trivial⟩).sub ⟨rfl, rfl, rfl, rfl, rfl, rfl, rfl, rfl, rfl, rfl, rfl, rfl, rfl, trivial⟩
    have M2 := M1.grow hb2
    clear hK K0 e0 K1 e1 K2 e2 K3 e3 K4 e4 K5 e5 K6 e6 K7 e7 K8 e8 K9 e9 K10 e10 K11 e11 K12 e12 K13 e13 K14 e14 K15 e15 K16 e16 K17 e17
    clear F11 M1
    refine nx ?_
    refine wp_ret ?_
    exact ret1 F12 rfl rfl ⟨rfl, M2.below⟩
end Go.Proofs.YtdjjiblijbjobaaDoor
