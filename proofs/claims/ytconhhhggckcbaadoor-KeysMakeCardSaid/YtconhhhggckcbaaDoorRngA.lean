/- The walks of the reference's Same, SameRing and Make. Printed by gen_key25.py. -/
import Derived.Test.YtconhhhggckcbaaDoorRng9
import Derived.Test.YtconhhhggckcbaaDoorEpQ
namespace Go.Proofs.YtconhhhggckcbaaDoor
open Go.RowKit

attribute [local irreducible] sealS keyedS nonceS openS
set_option maxRecDepth 100000 in
set_option maxHeartbeats 1000000 in
theorem sames_any (S : List Sh) (v u : Value) (w : World) (hV : Sl w v 33 S.length (S.flatMap shareC)) (hU : Sl w u 33 S.length (S.flatMap shareC)) (hSl : S.length < 2 ^ 36) : Calls Tryd.prog 17 #[v, u] w fun e w' => e = .returned (.bool true) ∧ Below w.heap.size w w' := by
  refine walk_enter Tryd.func17 rfl rfl rfl fun a0 F0 => ?_
  have M0 := Mem.new w
  refine wsl ?_
  refine sr (v := (.bool false)) F0 (run_as rfl rfl) rfl rfl rfl fun a1 F1 => ?_
  refine sn ?_
  clear F0
  refine wp_seq ?_
  refine wsl ?_
  refine mvS F1 rfl rfl rfl rfl rfl fun a2 F2 => ?_
  refine sr F2 (run_lenS rfl (F2.ev 6 rfl) (hV.below M0.below) rfl Tryd.underlying31) rfl rfl rfl fun a3 F3 => ?_
  refine mvS F3 rfl rfl rfl rfl rfl fun a4 F4 => ?_
  refine sr F4 (run_lenS rfl (F4.ev 8 rfl) (hU.below M0.below) rfl Tryd.underlying31) rfl rfl rfl fun a5 F5 => ?_
  refine sr (v := (.bool false)) F5 (run_nei rfl (F5.ev 7 rfl) (F5.ev 9 rfl) (bne_eq_false_iff_eq.2 (by omega))) rfl rfl rfl fun a6 F6 => ?_
  refine sn ?_
  clear F1 F2 F3 F4 F5
  refine cfs (F6.ev 10 rfl) ?_
  refine wp_seq ?_
  refine wsl ?_
  refine sr (v := (.int .i64 0)) F6 (run_as rfl rfl) rfl rfl rfl fun a7 F7 => ?_
  refine sn ?_
  clear F6
  refine wp_block ?_
  refine wkLoop (fun m a0 w2 => ∃ i : Nat, i ≤ S.length ∧ m = S.length - i ∧ Fr a0 26 [(0, v), (1, u), (5, .int .i64 (i : Int))] ∧ Mem w [] w2) S.length ⟨0, Nat.zero_le _, rfl, F7.sub ⟨rfl, rfl, rfl, trivial⟩, M0⟩ ?_
  rintro m a0 w1 ⟨i, hi, rfl, F0, M0⟩
  by_cases h1 : i < S.length
  · obtain ⟨sx, hsx⟩ : ∃ s, S[i]? = some s := ⟨S[i], List.getElem?_eq_getElem h1⟩
    refine wp_seq ?_
    refine wsl ?_
    refine mvS F0 rfl rfl rfl rfl rfl fun a1 F1 => ?_
    refine mvS F1 rfl rfl rfl rfl rfl fun a2 F2 => ?_
    refine sr F2 (run_lenS rfl (F2.ev 12 rfl) (hV.below M0.below) rfl Tryd.underlying31) rfl rfl rfl fun a3 F3 => ?_
    refine sr (v := (.bool true)) F3 (run_lss rfl (F3.ev 11 rfl) (F3.ev 13 rfl) (decide_eq_true (by omega))) rfl rfl rfl fun a4 F4 => ?_
    refine sn ?_
    clear F0 F1 F2 F3
    refine cts (F4.ev 14 rfl) ?_
    refine wp_seq ?_
    refine wp_block ?_
    refine wp_seq ?_
    obtain ⟨KL, hKL⟩ : ∃ KL, KL = [kval v, kval (.int .i64 (i : Int)), kval (slPtr v (i * 33)), kval (.agg (shareC sx).toArray), kval u, kval (.int .i64 (i : Int)), kval (slPtr u (i * 33)), kval (.agg (shareC sx).toArray), kval (.bool false)] := ⟨_, rfl⟩
    have K0 := getK hKL 0
    have K1 := getK hKL 1
    have K2 := getK hKL 2
    have K3 := getK hKL 3
    have K4 := getK hKL 4
    have K5 := getK hKL 5
    have K6 := getK hKL 6
    have K7 := getK hKL 7
    have K8 := getK hKL 8
    clear hKL
    refine wp_region_kd 26 (by kernel_rfl) (by kernel_rfl) (by kernel_rfl) F4.size KL ?_ ?_
    · refine ⟨?_, ?_, ?_, ?_, ?_, ?_, ?_, ?_, ?_, trivial⟩
      · exact asksY rfl fun a W hS hh hd => giv_run (run_mv rfl (eval_tmp (hh 0 _ rfl (F4.at 0 rfl)))) K0
      · exact asksY rfl fun a W hS hh hd => giv_run (run_mv rfl (eval_tmp (hh 5 _ rfl (F4.at 5 rfl)))) K1
      · exact asksY rfl fun a W hS hh hd => giv_run (run_atP (i := i) rfl (eval_tmp (hd.vl 0 17 (by kernel_rfl) K0)) (eval_tmp (hd.vl 1 18 (by kernel_rfl) K1)) rfl (hV.below (M0.grow hS).below) (by omega) eltSh.un (by kernel_rfl)) K2
      · exact asksY rfl fun a W hS hh hd => giv_run (run_ldPS (ys := shareC sx) rfl (eval_tmp (hd.vl 2 19 (by kernel_rfl) K2)) (hV.below (M0.grow hS).below) (by omega) (fun j u hj => flat_at shareC_len hsx j hj) (by kernel_rfl) (by kernel_rfl)) K3
      · exact asksY rfl fun a W hS hh hd => giv_run (run_mv rfl (eval_tmp (hh 1 _ rfl (F4.at 1 rfl)))) K4
      · exact asksY rfl fun a W hS hh hd => giv_run (run_mv rfl (eval_tmp (hh 5 _ rfl (F4.at 5 rfl)))) K5
      · exact asksY rfl fun a W hS hh hd => giv_run (run_atP (i := i) rfl (eval_tmp (hd.vl 4 21 (by kernel_rfl) K4)) (eval_tmp (hd.vl 5 22 (by kernel_rfl) K5)) rfl (hU.below (M0.grow hS).below) (by omega) eltSh.un (by kernel_rfl)) K6
      · exact asksY rfl fun a W hS hh hd => giv_run (run_ldPS (ys := shareC sx) rfl (eval_tmp (hd.vl 6 23 (by kernel_rfl) K6)) (hU.below (M0.grow hS).below) (by omega) (fun j u hj => flat_at shareC_len hsx j hj) (by kernel_rfl) (by kernel_rfl)) K7
      · exact asksY rfl fun a W hS hh hd => giv_run (run_neSh rfl (eval_tmp (hd.vl 3 20 (by kernel_rfl) K3)) (eval_tmp (hd.vl 7 24 (by kernel_rfl) K7))) K8
    · intro a5 w2 hb2 hK
      have e0 := hK.vl 0 17 (by kernel_rfl) K0
      have e1 := hK.vl 1 18 (by kernel_rfl) K1
      have e2 := hK.vl 2 19 (by kernel_rfl) K2
      have e3 := hK.vl 3 20 (by kernel_rfl) K3
      have e4 := hK.vl 4 21 (by kernel_rfl) K4
      have e5 := hK.vl 5 22 (by kernel_rfl) K5
      have e6 := hK.vl 6 23 (by kernel_rfl) K6
      have e7 := hK.vl 7 24 (by kernel_rfl) K7
      have e8 := hK.vl 8 25 (by kernel_rfl) K8
      have F5 : Fr a5 26 [(0, v), (1, u), (5, (.int .i64 (i : Int))), (11, (.int .i64 (i : Int))), (12, v), (13, (.int .i64 (S.length : Int))), (14, (.bool true)), (25, (.bool false))] := (hK.fr F4 [_, _, _, _, _, _, _, _, _] ⟨e0, e1, e2, e3, e4, e5, e6, e7, e8, trivial⟩).sub ⟨rfl, rfl, rfl, rfl, rfl, rfl, rfl, rfl, trivial⟩
      have M1 := M0.grow hb2
      clear hK K0 e0 K1 e1 K2 e2 K3 e3 K4 e4 K5 e5 K6 e6 K7 e7 K8 e8
      clear F4 M0
      refine nx ?_
      refine wp_cond_false (F5.ev 25 rfl) ?_
      refine wp_skip ?_
      refine bkEnd ?_
      refine nx ?_
      refine wp_region_lit ?_
      refine mvS F5 rfl rfl rfl rfl rfl fun a6 F6 => ?_
      refine sr F6 (run_add (r := ((i + 1 : Nat) : Int)) rfl (F6.ev 15 rfl) rfl (by rw [IntKind.wrap_i64]; omega)) rfl rfl rfl fun a7 F7 => ?_
      refine asS F7 rfl rfl rfl rfl rfl fun a8 F8 => ?_
      refine sn ?_
      clear F5 F6 F7
      exact ⟨_, by omega, i + 1, by omega, rfl, F8.sub ⟨rfl, rfl, rfl, trivial⟩, M1⟩
  · skip
    refine wp_seq ?_
    refine wsl ?_
    refine mvS F0 rfl rfl rfl rfl rfl fun a1 F1 => ?_
    refine mvS F1 rfl rfl rfl rfl rfl fun a2 F2 => ?_
    refine sr F2 (run_lenS rfl (F2.ev 12 rfl) (hV.below M0.below) rfl Tryd.underlying31) rfl rfl rfl fun a3 F3 => ?_
    refine sr (v := (.bool false)) F3 (run_lss rfl (F3.ev 11 rfl) (F3.ev 13 rfl) (decide_eq_false (by omega))) rfl rfl rfl fun a4 F4 => ?_
    refine sn ?_
    clear F0 F1 F2 F3
    refine wp_cond_false (F4.ev 14 rfl) ?_
    refine wp_exit ?_
    refine nxExit ?_
    refine nxExit ?_
    refine bkHere ?_
    refine nx ?_
    refine wsl ?_
    refine sr (v := (.bool true)) F4 (run_as rfl rfl) rfl rfl rfl fun a5 F5 => ?_
    refine sn ?_
    clear F4
    refine wp_ret ?_
    exact ret1 F5 rfl rfl ⟨rfl, M0.below⟩
set_option maxRecDepth 100000 in
set_option maxHeartbeats 1000000 in
theorem samer_any (E : List Ep) (v u : Value) (w : World) (hV : Sl w v 33 E.length (E.flatMap epF)) (hU : Sl w u 33 E.length (E.flatMap epF)) (hE32 : ∀ e ∈ E, e.c.length = 32) (hEl : E.length < 2 ^ 36) : Calls Tryd.prog 15 #[.agg #[v], .agg #[u]] w fun e w' => e = .returned (.bool true) ∧ Below w.heap.size w w' := by
  refine walk_enter Tryd.func15 rfl rfl rfl fun a0 F0 => ?_
  have M0 := Mem.new w
  refine wsl ?_
  refine sqNew (cs := #[v]) (t := 27) F0 M0 (wantedS rfl) (run_box rfl (F0.ev 0 rfl)) rfl (by decide) fun g0 a1 w1 hgg0 hb1 F1 M1 => ?_
  refine sqNew (cs := #[u]) (t := 27) F1 M1 (wantedS rfl) (run_box rfl (F1.ev 1 rfl)) rfl (by decide) fun g1 a2 w2 hgg1 hb2 F2 M2 => ?_
  refine sr (v := (.bool false)) F2 (run_as rfl rfl) rfl rfl rfl fun a3 F3 => ?_
  refine sn ?_
  clear F0 F1 F2 M0 M1
  refine wp_seq ?_
  refine wsl ?_
  refine sr F3 (run_fldA (m := 1) (s := 0) rfl (F3.ev 2 rfl) Tryd.underlying27 rfl rfl (by kernel_rfl) (by decide)) rfl rfl rfl fun a4 F4 => ?_
  refine sr (v := v) F4 (run_ldF rfl (F4.ev 6 rfl) (M2.at 1 rfl) rfl (by kernel_rfl)) rfl rfl rfl fun a5 F5 => ?_
  refine sr F5 (run_lenS rfl (F5.ev 7 rfl) (hV.below M2.below) rfl Tryd.underlying25) rfl rfl rfl fun a6 F6 => ?_
  refine sr F6 (run_fldA (m := 1) (s := 0) rfl (F6.ev 3 rfl) Tryd.underlying27 rfl rfl (by kernel_rfl) (by decide)) rfl rfl rfl fun a7 F7 => ?_
  refine sr (v := u) F7 (run_ldF rfl (F7.ev 9 rfl) (M2.at 0 rfl) rfl (by kernel_rfl)) rfl rfl rfl fun a8 F8 => ?_
  refine sr F8 (run_lenS rfl (F8.ev 10 rfl) (hU.below M2.below) rfl Tryd.underlying25) rfl rfl rfl fun a9 F9 => ?_
  refine sr (v := (.bool false)) F9 (run_nei rfl (F9.ev 8 rfl) (F9.ev 11 rfl) (bne_eq_false_iff_eq.2 (by omega))) rfl rfl rfl fun a10 F10 => ?_
  refine sn ?_
  clear F3 F4 F5 F6 F7 F8 F9
  refine cfs (F10.ev 12 rfl) ?_
  refine wp_seq ?_
  refine wsl ?_
  refine sr (v := (.int .i64 0)) F10 (run_as rfl rfl) rfl rfl rfl fun a11 F11 => ?_
  refine sn ?_
  clear F10
  refine wp_block ?_
  refine wkLoop (fun m a0 w2 => ∃ i : Nat, i ≤ E.length ∧ m = E.length - i ∧ Fr a0 31 [(2, .pointer (some ⟨g0, 0, none⟩)), (3, .pointer (some ⟨g1, 0, none⟩)), (5, .int .i64 (i : Int))] ∧ Mem w [(g1, isB 27 #[u]), (g0, isB 27 #[v])] w2) E.length ⟨0, Nat.zero_le _, rfl, F11.sub ⟨rfl, rfl, rfl, trivial⟩, M2⟩ ?_
  rintro m a0 w1 ⟨i, hi, rfl, F0, M0⟩
  by_cases h1 : i < E.length
  · obtain ⟨e, he⟩ : ∃ y, E[i]? = some y := ⟨E[i], List.getElem?_eq_getElem h1⟩
    have hLe := hE32 e (List.mem_of_getElem? he)
    refine wp_seq ?_
    refine wsl ?_
    refine mvS F0 rfl rfl rfl rfl rfl fun a1 F1 => ?_
    refine sr F1 (run_fldA (m := 1) (s := 0) rfl (F1.ev 2 rfl) Tryd.underlying27 rfl rfl (by kernel_rfl) (by decide)) rfl rfl rfl fun a2 F2 => ?_
    refine sr (v := v) F2 (run_ldF rfl (F2.ev 14 rfl) (M0.at 1 rfl) rfl (by kernel_rfl)) rfl rfl rfl fun a3 F3 => ?_
    refine sr F3 (run_lenS rfl (F3.ev 15 rfl) (hV.below M0.below) rfl Tryd.underlying25) rfl rfl rfl fun a4 F4 => ?_
    refine sr (v := (.bool true)) F4 (run_lss rfl (F4.ev 13 rfl) (F4.ev 16 rfl) (decide_eq_true (by omega))) rfl rfl rfl fun a5 F5 => ?_
    refine sn ?_
    clear F0 F1 F2 F3 F4
    refine cts (F5.ev 17 rfl) ?_
    refine wp_seq ?_
    refine wp_block ?_
    refine wp_seq ?_
    obtain ⟨KL, hKL⟩ : ∃ KL, KL = [kval (.pointer (some ⟨g0, 0, none⟩)), kval v, kval (.int .i64 (i : Int)), kval (slPtr v (i * 33)), kval (.agg (epC e)), kval (.pointer (some ⟨g1, 0, none⟩)), kval u, kval (.int .i64 (i : Int)), kval (slPtr u (i * 33)), kval (.agg (epC e)), kval (.bool false)] := ⟨_, rfl⟩
    have K0 := getK hKL 0
    have K1 := getK hKL 1
    have K2 := getK hKL 2
    have K3 := getK hKL 3
    have K4 := getK hKL 4
    have K5 := getK hKL 5
    have K6 := getK hKL 6
    have K7 := getK hKL 7
    have K8 := getK hKL 8
    have K9 := getK hKL 9
    have K10 := getK hKL 10
    clear hKL
    refine wp_region_kd 31 (by kernel_rfl) (by kernel_rfl) (by kernel_rfl) F5.size KL ?_ ?_
    · refine ⟨?_, ?_, ?_, ?_, ?_, ?_, ?_, ?_, ?_, ?_, ?_, trivial⟩
      · exact asksY rfl fun a W hS hh hd => giv_run (run_fldA (m := 1) (s := 0) rfl (eval_tmp (hh 2 _ rfl (F5.at 2 rfl))) Tryd.underlying27 rfl rfl (by kernel_rfl) (by decide)) K0
      · exact asksY rfl fun a W hS hh hd => giv_run (run_ldF rfl (eval_tmp (hd.vl 0 20 (by kernel_rfl) K0)) ((M0.grow hS).at 1 rfl) rfl (by kernel_rfl)) K1
      · exact asksY rfl fun a W hS hh hd => giv_run (run_mv rfl (eval_tmp (hh 5 _ rfl (F5.at 5 rfl)))) K2
      · exact asksY rfl fun a W hS hh hd => giv_run (run_atP (i := i) rfl (eval_tmp (hd.vl 1 21 (by kernel_rfl) K1)) (eval_tmp (hd.vl 2 22 (by kernel_rfl) K2)) rfl (hV.below (M0.grow hS).below) (by omega) elEp.un (by kernel_rfl)) K3
      · exact asksY rfl fun a W hS hh hd => giv_run (ldEp hLe (run_ldPS (ys := epF e) rfl (eval_tmp (hd.vl 3 23 (by kernel_rfl) K3)) (hV.below (M0.grow hS).below) (by omega) (fun j u hj => flat_at epF_len he j hj) (by kernel_rfl) (by kernel_rfl))) K4
      · exact asksY rfl fun a W hS hh hd => giv_run (run_fldA (m := 1) (s := 0) rfl (eval_tmp (hh 3 _ rfl (F5.at 3 rfl))) Tryd.underlying27 rfl rfl (by kernel_rfl) (by decide)) K5
      · exact asksY rfl fun a W hS hh hd => giv_run (run_ldF rfl (eval_tmp (hd.vl 5 25 (by kernel_rfl) K5)) ((M0.grow hS).at 0 rfl) rfl (by kernel_rfl)) K6
      · exact asksY rfl fun a W hS hh hd => giv_run (run_mv rfl (eval_tmp (hh 5 _ rfl (F5.at 5 rfl)))) K7
      · exact asksY rfl fun a W hS hh hd => giv_run (run_atP (i := i) rfl (eval_tmp (hd.vl 6 26 (by kernel_rfl) K6)) (eval_tmp (hd.vl 7 27 (by kernel_rfl) K7)) rfl (hU.below (M0.grow hS).below) (by omega) elEp.un (by kernel_rfl)) K8
      · exact asksY rfl fun a W hS hh hd => giv_run (ldEp hLe (run_ldPS (ys := epF e) rfl (eval_tmp (hd.vl 8 28 (by kernel_rfl) K8)) (hU.below (M0.grow hS).below) (by omega) (fun j u hj => flat_at epF_len he j hj) (by kernel_rfl) (by kernel_rfl))) K9
      · exact asksY rfl fun a W hS hh hd => giv_run (run_neEp hLe hLe (by rw [decide_eq_true rfl]; rfl) rfl (eval_tmp (hd.vl 4 24 (by kernel_rfl) K4)) (eval_tmp (hd.vl 9 29 (by kernel_rfl) K9))) K10
    · intro a6 w2 hb2 hK
      have e0 := hK.vl 0 20 (by kernel_rfl) K0
      have e1 := hK.vl 1 21 (by kernel_rfl) K1
      have e2 := hK.vl 2 22 (by kernel_rfl) K2
      have e3 := hK.vl 3 23 (by kernel_rfl) K3
      have e4 := hK.vl 4 24 (by kernel_rfl) K4
      have e5 := hK.vl 5 25 (by kernel_rfl) K5
      have e6 := hK.vl 6 26 (by kernel_rfl) K6
      have e7 := hK.vl 7 27 (by kernel_rfl) K7
      have e8 := hK.vl 8 28 (by kernel_rfl) K8
      have e9 := hK.vl 9 29 (by kernel_rfl) K9
      have e10 := hK.vl 10 30 (by kernel_rfl) K10
      have F6 : Fr a6 31 [(2, (.pointer (some ⟨g0, 0, none⟩))), (3, (.pointer (some ⟨g1, 0, none⟩))), (5, (.int .i64 (i : Int))), (13, (.int .i64 (i : Int))), (14, (.pointer (some ⟨g0, 0, none⟩))), (15, v), (16, (.int .i64 (E.length : Int))), (17, (.bool true)), (30, (.bool false))] := (hK.fr F5 [_, _, _, _, _, _, _, _, _, _, _] ⟨e0, e1, e2, e3, e4, e5, e6, e7, e8, e9, e10, trivial⟩).sub ⟨rfl, rfl, rfl, rfl, rfl, rfl, rfl, rfl, rfl, trivial⟩
      have M1 := M0.grow hb2
      clear hK K0 e0 K1 e1 K2 e2 K3 e3 K4 e4 K5 e5 K6 e6 K7 e7 K8 e8 K9 e9 K10 e10
      clear F5 M0
      refine nx ?_
      refine wp_cond_false (F6.ev 30 rfl) ?_
      refine wp_skip ?_
      refine bkEnd ?_
      refine nx ?_
      refine wp_region_lit ?_
      refine mvS F6 rfl rfl rfl rfl rfl fun a7 F7 => ?_
      refine sr F7 (run_add (r := ((i + 1 : Nat) : Int)) rfl (F7.ev 18 rfl) rfl (by rw [IntKind.wrap_i64]; omega)) rfl rfl rfl fun a8 F8 => ?_
      refine asS F8 rfl rfl rfl rfl rfl fun a9 F9 => ?_
      refine sn ?_
      clear F6 F7 F8
      exact ⟨_, by omega, i + 1, by omega, rfl, F9.sub ⟨rfl, rfl, rfl, trivial⟩, M1⟩
  · skip
    refine wp_seq ?_
    refine wsl ?_
    refine mvS F0 rfl rfl rfl rfl rfl fun a1 F1 => ?_
    refine sr F1 (run_fldA (m := 1) (s := 0) rfl (F1.ev 2 rfl) Tryd.underlying27 rfl rfl (by kernel_rfl) (by decide)) rfl rfl rfl fun a2 F2 => ?_
    refine sr (v := v) F2 (run_ldF rfl (F2.ev 14 rfl) (M0.at 1 rfl) rfl (by kernel_rfl)) rfl rfl rfl fun a3 F3 => ?_
    refine sr F3 (run_lenS rfl (F3.ev 15 rfl) (hV.below M0.below) rfl Tryd.underlying25) rfl rfl rfl fun a4 F4 => ?_
    refine sr (v := (.bool false)) F4 (run_lss rfl (F4.ev 13 rfl) (F4.ev 16 rfl) (decide_eq_false (by omega))) rfl rfl rfl fun a5 F5 => ?_
    refine sn ?_
    clear F0 F1 F2 F3 F4
    refine wp_cond_false (F5.ev 17 rfl) ?_
    refine wp_exit ?_
    refine nxExit ?_
    refine nxExit ?_
    refine bkHere ?_
    refine nx ?_
    refine wsl ?_
    refine sr (v := (.bool true)) F5 (run_as rfl rfl) rfl rfl rfl fun a6 F6 => ?_
    refine sn ?_
    clear F5
    refine wp_ret ?_
    exact ret1 F6 rfl rfl ⟨rfl, M0.below⟩
set_option maxRecDepth 100000 in
set_option maxHeartbeats 1000000 in
theorem rmake_any (k no : List UInt8) (w : World) (hLk : k.length = 32) : Calls Tryd.prog 14 #[.agg (cells8 k), .string ⟨no.toArray⟩] w fun e w' => ∃ u, e = .returned u ∧ Kp.sat w.heap.size (.tup4 (.st (.row 76 33 (((makeS k no).1).length) (((makeS k no).1).flatMap epF))) (.st (.row 23 32 (((makeS k no).2.1).length) (((makeS k no).2.1).flatMap dgC))) (.row 54 33 (((makeS k no).2.2.1).length) (((makeS k no).2.2.1).flatMap shareC)) (.val (.int .i64 ((makeS k no).2.2.2)))) u w' ∧ Below w.heap.size w w' := by
  by_cases hno : no.length = 64
  · have hs : makeS k no = ([⟨keyedS k checkT, []⟩], [k], shS k no, 0) := by unfold makeS; rw [if_pos hno]; rfl
    refine walk_enter Tryd.func14 rfl rfl rfl fun a0 F0 => ?_
    have M0 := Mem.new w
    refine wsl ?_
    refine sqNew (cs := (cells8 k)) (t := 23) F0 M0 (wantedS rfl) (run_box rfl (F0.ev 0 rfl)) rfl (by decide) fun g0 a1 w1 hgg0 hb1 F1 M1 => ?_
    refine sqNew (cs := #[.slice none 0 0]) (t := 27) F1 M1 (wantedS rfl) (run_alloc rfl (by kernel_rfl)) rfl (by decide) fun g1 a2 w2 hgg1 hb2 F2 M2 => ?_
    refine sqNew (cs := #[.slice none 0 0]) (t := 30) F2 M2 (wantedS rfl) (run_alloc rfl (by kernel_rfl)) rfl (by decide) fun g2 a3 w3 hgg2 hb3 F3 M3 => ?_
    refine sr (v := (.slice none 0 0)) F3 (run_as rfl rfl) rfl rfl rfl fun a4 F4 => ?_
    refine sr (v := (.int .i64 0)) F4 (run_as rfl rfl) rfl rfl rfl fun a5 F5 => ?_
    refine sn ?_
    clear F0 F1 F2 F3 F4 M0 M1 M2
    refine wsl ?_
    refine sr F5 (run_ldB rfl (F5.ev 2 rfl) (M3.at 2 rfl) Tryd.underlying23 rfl sz32k (szOf hLk)) rfl rfl rfl fun a6 F6 => ?_
    refine mvS F6 rfl rfl rfl rfl rfl fun a7 F7 => ?_
    refine sqT (T := fun u wx => Kp.sat w3.heap.size (.tup2 (.row 54 33 5 ((shS k no).flatMap shareC)) (.val (.int .i64 0))) u wx ∧ Below w3.heap.size w3 wx) F7 (wantedS rfl) (run_call rfl Tryd.func40 (by kernel_rfl) rfl (mapE3 (F7.ev 11 rfl) rfl (F7.ev 12 rfl))) rfl (by decide) ((rsplit_any k no w3 hLk hno).mono fun e w2 ⟨⟨v, h1, h2⟩, h3⟩ => ⟨_, h1, ⟨v, _, rfl, h2, rfl⟩, h3⟩) fun u3 a8 w4 hT4 F8 => ?_
    obtain ⟨⟨vz4a, _, rfl, hz4a, rfl⟩, hb4⟩ := hT4
    have hO1 := OwnR.ofCall M3 (show World.ownsRow w4 _ 54 33 vz4a 5 ((shS k no).flatMap shareC) from hz4a)
    have M4 := M3.grow hb4
    refine mvS F8 rfl rfl rfl rfl rfl fun a9 F9 => ?_
    refine sr (v := vz4a) F9 (run_ext rfl (F9.ev 10 rfl) rfl) rfl rfl rfl fun a10 F10 => ?_
    refine sr (v := (.int .i64 0)) F10 (run_ext rfl (F10.ev 10 rfl) rfl) rfl rfl rfl fun a11 F11 => ?_
    refine asS F11 rfl rfl rfl rfl rfl fun a12 F12 => ?_
    refine asS F12 rfl rfl rfl rfl rfl fun a13 F13 => ?_
    refine sn ?_
    clear F5 F6 F7 F8 F9 F10 F11 F12 M3
    refine wp_seq ?_
    refine wsl ?_
    refine mvS F13 rfl rfl rfl rfl rfl fun a14 F14 => ?_
    refine sr (v := (.bool false)) F14 (run_nei rfl (F14.ev 16 rfl) rfl (bne_eq_false_iff_eq.2 (by omega))) rfl rfl rfl fun a15 F15 => ?_
    refine sn ?_
    clear F13 F14
    refine cfs (F15.ev 17 rfl) ?_
    refine wp_seq ?_
    have hMs := M4.sub (.cons _ (.cons _ (.cons_cons _ .slnil)))
    have hfM : ∀ xq ∈ [(g0, isB 23 (cells8 k))], xq.1 ∉ [g1, g2] := by
      intro xq hx hg
      simp only [List.mem_cons, List.not_mem_nil, or_false] at hx hg
      rcases hx with rfl <;> rcases hg with hg | hg <;> first | exact absurd hg (setAt_ne M4.nd (i := 2) (j := 1) rfl rfl (by decide)) | exact absurd hg (setAt_ne M4.nd (i := 2) (j := 0) rfl rfl (by decide))
    have hfG : ∀ gq ∈ [g1, g2], w.heap.size ≤ gq := by
      intro gq hg
      simp only [List.mem_cons, List.not_mem_nil, or_false] at hg
      rcases hg with rfl | rfl
      · exact M4.ge 1 rfl
      · exact M4.ge 0 rfl
    have hfovz4a : ∀ gq ∈ [g1, g2], (vz4a : Value).ownBlock ≠ some gq := by
      intro gq hg
      simp only [List.mem_cons, List.not_mem_nil, or_false] at hg
      rcases hg with rfl | rfl
      · exact hO1.far _ (List.mem_of_getElem? (i := 1) rfl)
      · exact hO1.far _ (List.mem_of_getElem? (i := 0) rfl)
    refine wp_region_p 29 [.val (.agg (cells8 k)), .val (.agg (epC (⟨keyedS k [99, 104, 101, 99, 107], []⟩))), .row 76 33 1 ([⟨keyedS k [99, 104, 101, 99, 107], []⟩].flatMap epF), .st (.row 76 33 1 ([⟨keyedS k [99, 104, 101, 99, 107], []⟩].flatMap epF)), .val (.agg (cells8 k)), .row 23 32 1 ([k].flatMap dgC), .st (.row 23 32 1 ([k].flatMap dgC)), .val vz4a, .any, .any, .val vz4a, .val (.int .i64 0)] [] [] [⟨8, g1, 27, #[.slice none 0 0], .st (.row 76 33 1 ([⟨keyedS k [99, 104, 101, 99, 107], []⟩].flatMap epF))⟩, ⟨9, g2, 30, #[.slice none 0 0], .st (.row 23 32 1 ([k].flatMap dgC))⟩] [] (by kernel_rfl) (by kernel_rfl) F15.size ?_ ?_ ?_ ?_ (by kernel_rfl) ?_ fun a16 w5 gs hI => ?_
    · intro d hd
      cases hd
    · intro b hb
      simp only [List.mem_cons, List.not_mem_nil, or_false] at hb
      rcases hb with rfl | rfl
      · exact ⟨Nat.le_of_ble_eq_true (by kernel_rfl), M4.at 1 rfl⟩
      · exact ⟨Nat.le_of_ble_eq_true (by kernel_rfl), M4.at 0 rfl⟩
    · have hne01 : g1 ≠ g2 := setAt_ne M4.nd (i := 1) (j := 0) rfl rfl (by decide)
      intro x y b c hx hy hne
      rcases x with _ | _ | x <;> rcases y with _ | _ | y <;> simp at hx hy hne <;> subst hx <;> subst hy <;> first | exact hne01 | exact hne01.symm
    · intro r hr
      cases hr
    · refine ⟨?_, ?_, ?_, ?_, ?_, ?_, ?_, ?_, ?_, ?_, ?_, ?_, trivial⟩
      · refine .val 21 rfl (by simp) (by simp) (by simp) fun a W hK hh hd => ⟨wanted_yes rfl, ?_⟩
        exact givz_run (run_ldB rfl (eval_tmp (hh 2 _ rfl (F15.at 2 rfl))) ((hMs.keepW hK hfM hfG).at 0 rfl) Tryd.underlying23 rfl sz32k (szOf hLk)) rfl
      · refine .val 22 rfl (by simp) (by simp) (by simp) fun a W hK hh hd => ⟨wanted_yes rfl, ?_⟩
        exact givz_callV (run_call rfl Tryd.func41 (by kernel_rfl) rfl (mapE2 rfl (eval_tmp (hd.valz (j := 0) (s := 21) (by kernel_rfl) (by simp) rfl rfl)))) (repoch0_any [] (.slice none 0 0) k W ⟨rfl, .inl ⟨⟨_, _, rfl⟩, rfl⟩⟩ hLk rfl)
      · refine .val 23 rfl (by simp) (by simp) (by simp) fun a W hK hh hd => ⟨wanted_yes rfl, ?_⟩
        exact givz_newRowL (m := 33) (n := 1) _ _ hK.size (flat_lenG epF_len [⟨keyedS k [99, 104, 101, 99, 107], []⟩]) (by decide) (run_eps1 (e := ⟨keyedS k [99, 104, 101, 99, 107], []⟩) (keyedS_len _ _) rfl (eval_tmp (hd.valz (j := 1) (s := 22) (by kernel_rfl) (by simp) rfl rfl)))
      · refine .val 24 rfl (by simp) (by simp) (by simp) fun a W hK hh hd => ⟨wanted_yes rfl, ?_⟩
        obtain ⟨vz_3_2, ey2, hz_3_2⟩ := hd.getz (j := 2) (s := 23) (by kernel_rfl) (by simp) rfl rfl
        exact givz_run (run_blt1 rfl (eval_tmp ey2) (own_slice hz_3_2) fun _ _ _ => by kernel_rfl) ⟨_, rfl, hz_3_2⟩
      · refine .val 25 rfl (by simp) (by simp) (by simp) fun a W hK hh hd => ⟨wanted_yes rfl, ?_⟩
        exact givz_run (run_ldB rfl (eval_tmp (hh 2 _ rfl (F15.at 2 rfl))) ((hMs.keepW hK hfM hfG).at 0 rfl) Tryd.underlying23 rfl sz32k (szOf hLk)) rfl
      · refine .val 26 rfl (by simp) (by simp) (by simp) fun a W hK hh hd => ⟨wanted_yes rfl, ?_⟩
        exact givz_newRowL (m := 32) (n := 1) _ _ hK.size (flat_lenG dgC_len [k]) (by decide) (run_keys1 hLk rfl (eval_tmp (hd.valz (j := 4) (s := 25) (by kernel_rfl) (by simp) rfl rfl)))
      · refine .val 27 rfl (by simp) (by simp) (by simp) fun a W hK hh hd => ⟨wanted_yes rfl, ?_⟩
        obtain ⟨vz_6_5, ey5, hz_6_5⟩ := hd.getz (j := 5) (s := 26) (by kernel_rfl) (by simp) rfl rfl
        exact givz_run (run_blt1 rfl (eval_tmp ey5) (own_slice hz_6_5) fun _ _ _ => by kernel_rfl) ⟨_, rfl, hz_6_5⟩
      · refine .val 28 rfl (by simp) (by simp) (by simp) fun a W hK hh hd => ⟨wanted_yes rfl, ?_⟩
        exact givz_run (run_mv rfl (eval_tmp (hh 8 _ rfl (F15.at 8 rfl)))) rfl
      · refine .putO 0 _ rfl rfl rfl (by simp) (fun y e hy he => by rcases y with _ | _ | y <;> simp at hy <;> (try subst hy) <;> simp at he ⊢) (by simp) 1 27 _ _ rfl (fun a hh => eval_tmp (hh 4 _ rfl (F15.at 4 rfl))) (fun a W hK hh hd => ?_) rfl szRg rfl
        obtain ⟨_, ey3, ⟨vz_8_3, rfl, hz_8_3⟩⟩ := hd.getz (j := 3) (s := 24) (by kernel_rfl) (by simp) rfl rfl
        rw [show a.eval _ = _ from (eval_tmp ey3)]
        exact ⟨⟨_, rfl, hz_8_3⟩, rfl, (one_own hz_8_3)⟩
      · refine .putO 1 _ rfl rfl rfl (by simp) (fun y e hy he => by rcases y with _ | _ | y <;> simp at hy <;> (try subst hy) <;> simp at he ⊢) (by simp) 1 30 _ _ rfl (fun a hh => eval_tmp (hh 5 _ rfl (F15.at 5 rfl))) (fun a W hK hh hd => ?_) rfl szKy rfl
        obtain ⟨_, ey6, ⟨vz_9_6, rfl, hz_9_6⟩⟩ := hd.getz (j := 6) (s := 27) (by kernel_rfl) (by simp) rfl rfl
        rw [show a.eval _ = _ from (eval_tmp ey6)]
        exact ⟨⟨_, rfl, hz_9_6⟩, rfl, (one_own hz_9_6)⟩
      · refine .val 6 rfl (by simp) (by simp) (by simp) fun a W hK hh hd => ⟨wanted_yes rfl, ?_⟩
        exact givz_run (run_as rfl (eval_tmp (hd.valz (j := 7) (s := 28) (by kernel_rfl) (by simp) rfl rfl))) rfl
      · refine .val 7 rfl (by simp) (by simp) (by simp) fun a W hK hh hd => ⟨wanted_yes rfl, ?_⟩
        exact givz_run (run_as rfl rfl) rfl
    have e6_ : a16.tmps[6]? = some vz4a := by
      obtain ⟨vq, hq1, hq2⟩ := hI.val 10 _ 6 rfl rfl rfl (by simp) (fun _ h => by cases h)
      rw [hq1]
      exact congrArg some hq2
    have e7_ : a16.tmps[7]? = some (.int .i64 0) := by
      obtain ⟨vq, hq1, hq2⟩ := hI.val 11 _ 7 rfl rfl rfl (by simp) (fun _ h => by cases h)
      rw [hq1]
      exact congrArg some hq2
    have fg1z := (hI.old _ (List.mem_of_getElem? (i := 0) rfl)).2 (by kernel_rfl)
    obtain ⟨_, Bg1, ⟨vz5_, rfl, hz5_⟩⟩ := fg1z
    have Bg1 : Blk w5 g1 27 (#[vz5_]) := Bg1
    have fg2z := (hI.old _ (List.mem_of_getElem? (i := 1) rfl)).2 (by kernel_rfl)
    obtain ⟨_, Bg2, ⟨vz6_, rfl, hz6_⟩⟩ := fg2z
    have Bg2 : Blk w5 g2 30 (#[vz6_]) := Bg2
    have M5 := hMs.keepW hI.keep hfM hfG
    have hO2 := (hO1.sub (.cons _ (.cons _ (.cons_cons _ .slnil)))).keepW hI.keep hfovz4a
    have hO3 := OwnR.ofCall hMs (show World.ownsRow w5 _ 76 33 vz5_ 1 ([⟨keyedS k [99, 104, 101, 99, 107], []⟩].flatMap epF) from hz5_)
    have hO4 := OwnR.ofCall hMs (show World.ownsRow w5 _ 23 32 vz6_ 1 ([k].flatMap dgC) from hz6_)
    have hO5 := hO2.addFar (S := isB 27 (#[vz5_])) (hfovz4a g1 (by simp))
    have hO6 := hO3.addFar (S := isB 27 (#[vz5_])) (own_ne_ty hO3.owns Bg1 (by kernel_rfl))
    have hO7 := hO4.addFar (S := isB 27 (#[vz5_])) (own_ne_ty hO4.owns Bg1 (by kernel_rfl))
    have M6 := M5.put1 (cs := #[vz5_]) (M4.ge 1 rfl) Bg1 (fun y hy hq => hfM y hy (by rw [hq]; simp))
    have hO8 := hO5.addFar (S := isB 30 (#[vz6_])) (hfovz4a g2 (by simp))
    have hO9 := hO6.addFar (S := isB 30 (#[vz6_])) (own_ne_ty hO6.owns Bg2 (by kernel_rfl))
    have hO10 := hO7.addFar (S := isB 30 (#[vz6_])) (own_ne_ty hO7.owns Bg2 (by kernel_rfl))
    have M7 := M6.put1 (cs := #[vz6_]) (M4.ge 0 rfl) Bg2 (far_cons (setAt_ne M4.nd (i := 1) (j := 0) rfl rfl (by decide)) (fun y hy hq => hfM y hy (by rw [hq]; simp)))
    have F16 : Fr a16 29 [(0, (.agg (cells8 k))), (1, (.string ⟨no.toArray⟩)), (2, (.pointer (some ⟨g0, 0, none⟩))), (4, (.pointer (some ⟨g1, 0, none⟩))), (5, (.pointer (some ⟨g2, 0, none⟩))), (6, vz4a), (7, (.int .i64 0)), (9, (.int .i64 0)), (10, (.tuple #[vz4a, (.int .i64 0)])), (11, (.agg (cells8 k))), (12, (.string ⟨no.toArray⟩)), (13, (.tuple #[vz4a, (.int .i64 0)])), (14, vz4a), (15, (.int .i64 0)), (16, (.int .i64 0)), (17, (.bool false))] := fr_of_holds hI.tsz (hI.defers.trans F15.defers) ⟨hI.had 0 _ rfl (F15.at 0 rfl), hI.had 1 _ rfl (F15.at 1 rfl), hI.had 2 _ rfl (F15.at 2 rfl), hI.had 4 _ rfl (F15.at 4 rfl), hI.had 5 _ rfl (F15.at 5 rfl), e6_, e7_, hI.had 9 _ rfl (F15.at 9 rfl), hI.had 10 _ rfl (F15.at 10 rfl), hI.had 11 _ rfl (F15.at 11 rfl), hI.had 12 _ rfl (F15.at 12 rfl), hI.had 13 _ rfl (F15.at 13 rfl), hI.had 14 _ rfl (F15.at 14 rfl), hI.had 15 _ rfl (F15.at 15 rfl), hI.had 16 _ rfl (F15.at 16 rfl), hI.had 17 _ rfl (F15.at 17 rfl), trivial⟩
    clear F15 M4 M5 M6
    refine nx ?_
    refine wp_ret ?_
    exact retV F16 (results_LLTT F16 rfl rfl rfl (loadVar_all (M7.at 1 rfl) Tryd.underlying27 rfl szRg rfl) (loadVar_all (M7.at 0 rfl) Tryd.underlying30 rfl szKy rfl) rfl rfl) ⟨_, rfl, by rw [hs]; exact ⟨_, _, _, _, rfl, ⟨_, rfl, hO9.owns⟩, ⟨_, rfl, hO10.owns⟩, by rw [shS_len]; exact hO8.owns, rfl⟩, M7.below⟩
  · have hs : makeS k no = ([], [], [], 1) := by unfold makeS; rw [if_neg hno]
    refine walk_enter Tryd.func14 rfl rfl rfl fun a0 F0 => ?_
    have M0 := Mem.new w
    refine wsl ?_
    refine sqNew (cs := (cells8 k)) (t := 23) F0 M0 (wantedS rfl) (run_box rfl (F0.ev 0 rfl)) rfl (by decide) fun g0 a1 w1 hgg0 hb1 F1 M1 => ?_
    refine sqNew (cs := #[.slice none 0 0]) (t := 27) F1 M1 (wantedS rfl) (run_alloc rfl (by kernel_rfl)) rfl (by decide) fun g1 a2 w2 hgg1 hb2 F2 M2 => ?_
    refine sqNew (cs := #[.slice none 0 0]) (t := 30) F2 M2 (wantedS rfl) (run_alloc rfl (by kernel_rfl)) rfl (by decide) fun g2 a3 w3 hgg2 hb3 F3 M3 => ?_
    refine sr (v := (.slice none 0 0)) F3 (run_as rfl rfl) rfl rfl rfl fun a4 F4 => ?_
    refine sr (v := (.int .i64 0)) F4 (run_as rfl rfl) rfl rfl rfl fun a5 F5 => ?_
    refine sn ?_
    clear F0 F1 F2 F3 F4 M0 M1 M2
    refine wsl ?_
    refine sr F5 (run_ldB rfl (F5.ev 2 rfl) (M3.at 2 rfl) Tryd.underlying23 rfl sz32k (szOf hLk)) rfl rfl rfl fun a6 F6 => ?_
    refine mvS F6 rfl rfl rfl rfl rfl fun a7 F7 => ?_
    refine sqC (v := (.tuple #[(.slice none 0 0), (.int .i64 1)])) F7 M3 (wantedS rfl) (run_call rfl Tryd.func40 (by kernel_rfl) rfl (mapE3 (F7.ev 11 rfl) rfl (F7.ev 12 rfl))) rfl (by decide) (rsplitE_any k no w3 hLk hno) fun a8 w4 hb4 F8 M4 => ?_
    refine mvS F8 rfl rfl rfl rfl rfl fun a9 F9 => ?_
    refine sr (v := (.slice none 0 0)) F9 (run_ext rfl (F9.ev 10 rfl) rfl) rfl rfl rfl fun a10 F10 => ?_
    refine sr (v := (.int .i64 1)) F10 (run_ext rfl (F10.ev 10 rfl) rfl) rfl rfl rfl fun a11 F11 => ?_
    refine asS F11 rfl rfl rfl rfl rfl fun a12 F12 => ?_
    refine asS F12 rfl rfl rfl rfl rfl fun a13 F13 => ?_
    refine sn ?_
    clear F5 F6 F7 F8 F9 F10 F11 F12 M3
    refine wp_seq ?_
    refine wsl ?_
    refine mvS F13 rfl rfl rfl rfl rfl fun a14 F14 => ?_
    refine sr (v := (.bool true)) F14 (run_nei rfl (F14.ev 16 rfl) rfl (bne_iff_ne.2 (by omega))) rfl rfl rfl fun a15 F15 => ?_
    refine sn ?_
    clear F13 F14
    refine wp_cond_true (F15.ev 17 rfl) ?_
    refine wsl ?_
    refine sr (v := (.agg #[.slice none 0 0])) F15 (run_blt (vs := #[]) (cs := #[.slice none 0 0]) rfl (by simp) (by kernel_rfl)) rfl rfl rfl fun a16 F16 => ?_
    refine sr (v := (.agg #[.slice none 0 0])) F16 (run_blt (vs := #[]) (cs := #[.slice none 0 0]) rfl (by simp) (by kernel_rfl)) rfl rfl rfl fun a17 F17 => ?_
    refine mvS F17 rfl rfl rfl rfl rfl fun a18 F18 => ?_
    refine sqStore (i := 1) F18 M4 rfl rfl rfl (F18.ev 4 rfl) (F18.ev 18 rfl) rfl szRg rfl rfl (arr_one rfl) fun a19 w5 F19 M5 => ?_
    refine sqStore (i := 0) F19 M5 rfl rfl rfl (F19.ev 5 rfl) (F19.ev 19 rfl) rfl szKy rfl rfl (arr_one rfl) fun a20 w6 F20 M6 => ?_
    refine sr (v := (.slice none 0 0)) F20 (run_as rfl rfl) rfl rfl rfl fun a21 F21 => ?_
    refine asS F21 rfl rfl rfl rfl rfl fun a22 F22 => ?_
    refine sn ?_
    clear F15 F16 F17 F18 F19 F20 F21 M4 M5
    refine wp_ret ?_
    refine nxRet ?_
    exact retV F22 (results_LLTT F22 rfl rfl rfl (loadVar_all (M6.at 1 rfl) Tryd.underlying27 rfl szRg rfl) (loadVar_all (M6.at 0 rfl) Tryd.underlying30 rfl szKy rfl) rfl rfl) ⟨_, rfl, by rw [hs]; exact ⟨_, _, _, _, rfl, ⟨_, rfl, ⟨rfl, .inl ⟨rfl, rfl⟩⟩⟩, ⟨_, rfl, ⟨rfl, .inl ⟨rfl, rfl⟩⟩⟩, ⟨rfl, .inl ⟨rfl, rfl⟩⟩, rfl⟩, M6.below⟩
theorem make_c32 (k no : List UInt8) : ∀ e ∈ (makeS k no).1, e.c.length = 32 := by
  unfold makeS
  split
  · exact ringS_c32 _
  · intro e he; cases he
theorem make_k32 {k no : List UInt8} (hk : k.length = 32) : ∀ x ∈ (makeS k no).2.1, x.length = 32 := by
  unfold makeS
  split
  · intro x hx; rw [List.mem_singleton.1 hx]; exact hk
  · intro e he; cases he
theorem make_lens (k no : List UInt8) : (makeS k no).1.length < 2 ^ 36 ∧ (makeS k no).2.1.length < 2 ^ 36 ∧ (makeS k no).2.2.1.length < 2 ^ 36 := by
  unfold makeS
  split
  · exact ⟨by simp [ringS_len], by simp, by simp [shS_len]⟩
  · exact ⟨by simp, by simp, by simp⟩
end Go.Proofs.YtconhhhggckcbaaDoor
