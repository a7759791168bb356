/- The walks of the reference's SameKeys, and of the laws' none and alive. Printed by gen_key18.py. -/
import Derived.Test.YtconhhhggckcbaaDoorRngG
namespace Go.Proofs.YtconhhhggckcbaaDoor
open Go.RowKit

attribute [local irreducible] sealS keyedS nonceS openS
set_option maxRecDepth 100000 in
set_option maxHeartbeats 1000000 in
theorem samek_any (K : List (List UInt8)) (v u : Value) (w : World) (hV : Sl w v 32 K.length (K.flatMap dgC)) (hU : Sl w u 32 K.length (K.flatMap dgC)) (h32 : ∀ k ∈ K, k.length = 32) (hKl : K.length < 2 ^ 36) : Calls Tryd.prog 16 #[.agg #[v], .agg #[u]] w fun e w' => e = .returned (.bool true) ∧ Below w.heap.size w w' := by
  refine walk_enter Tryd.func16 rfl rfl rfl fun a0 F0 => ?_
  have M0 := Mem.new w
  refine wsl ?_
  refine sqNew (cs := #[v]) (t := 30) F0 M0 (wantedS rfl) (run_box rfl (F0.ev 0 rfl)) rfl (by decide) fun g0 a1 w1 hgg0 hb1 F1 M1 => ?_
  refine sqNew (cs := #[u]) (t := 30) F1 M1 (wantedS rfl) (run_box rfl (F1.ev 1 rfl)) rfl (by decide) fun g1 a2 w2 hgg1 hb2 F2 M2 => ?_
  refine sr (v := (.bool false)) F2 (run_as rfl rfl) rfl rfl rfl fun a3 F3 => ?_
  refine sn ?_
  clear F0 F1 F2 M0 M1
  refine wp_seq ?_
  refine wsl ?_
  refine sr F3 (run_fldA (m := 1) (s := 0) rfl (F3.ev 2 rfl) Tryd.underlying30 rfl rfl (by kernel_rfl) (by decide)) rfl rfl rfl fun a4 F4 => ?_
  refine sr (v := v) F4 (run_ldF rfl (F4.ev 6 rfl) (M2.at 1 rfl) rfl (by kernel_rfl)) rfl rfl rfl fun a5 F5 => ?_
  refine sr F5 (run_lenS rfl (F5.ev 7 rfl) (hV.below M2.below) rfl Tryd.underlying28) rfl rfl rfl fun a6 F6 => ?_
  refine sr F6 (run_fldA (m := 1) (s := 0) rfl (F6.ev 3 rfl) Tryd.underlying30 rfl rfl (by kernel_rfl) (by decide)) rfl rfl rfl fun a7 F7 => ?_
  refine sr (v := u) F7 (run_ldF rfl (F7.ev 9 rfl) (M2.at 0 rfl) rfl (by kernel_rfl)) rfl rfl rfl fun a8 F8 => ?_
  refine sr F8 (run_lenS rfl (F8.ev 10 rfl) (hU.below M2.below) rfl Tryd.underlying28) rfl rfl rfl fun a9 F9 => ?_
  refine sr (v := (.bool false)) F9 (run_nei rfl (F9.ev 8 rfl) (F9.ev 11 rfl) (bne_eq_false_iff_eq.2 (by omega))) rfl rfl rfl fun a10 F10 => ?_
  refine sn ?_
  clear F3 F4 F5 F6 F7 F8 F9
  refine cfs (F10.ev 12 rfl) ?_
  refine wp_seq ?_
  refine wsl ?_
  refine sr (v := (.int .i64 0)) F10 (run_as rfl rfl) rfl rfl rfl fun a11 F11 => ?_
  refine sn ?_
  clear F10
  refine wp_block ?_
  refine wkLoop (fun m a0 w2 => ∃ i : Nat, i ≤ K.length ∧ m = K.length - i ∧ Fr a0 31 [(2, .pointer (some ⟨g0, 0, none⟩)), (3, .pointer (some ⟨g1, 0, none⟩)), (5, .int .i64 (i : Int))] ∧ Mem w [(g1, isB 30 #[u]), (g0, isB 30 #[v])] w2) K.length ⟨0, Nat.zero_le _, rfl, F11.sub ⟨rfl, rfl, rfl, trivial⟩, M2⟩ ?_
  rintro m a0 w1 ⟨i, hi, rfl, F0, M0⟩
  by_cases h1 : i < K.length
  · obtain ⟨y, hy⟩ : ∃ y, K[i]? = some y := ⟨K[i], List.getElem?_eq_getElem h1⟩
    have hLy := h32 y (List.mem_of_getElem? hy)
    refine wp_seq ?_
    refine wsl ?_
    refine mvS F0 rfl rfl rfl rfl rfl fun a1 F1 => ?_
    refine sr F1 (run_fldA (m := 1) (s := 0) rfl (F1.ev 2 rfl) Tryd.underlying30 rfl rfl (by kernel_rfl) (by decide)) rfl rfl rfl fun a2 F2 => ?_
    refine sr (v := v) F2 (run_ldF rfl (F2.ev 14 rfl) (M0.at 1 rfl) rfl (by kernel_rfl)) rfl rfl rfl fun a3 F3 => ?_
    refine sr F3 (run_lenS rfl (F3.ev 15 rfl) (hV.below M0.below) rfl Tryd.underlying28) rfl rfl rfl fun a4 F4 => ?_
    refine sr (v := (.bool true)) F4 (run_lss rfl (F4.ev 13 rfl) (F4.ev 16 rfl) (decide_eq_true (by omega))) rfl rfl rfl fun a5 F5 => ?_
    refine sn ?_
    clear F0 F1 F2 F3 F4
    refine cts (F5.ev 17 rfl) ?_
    refine wp_seq ?_
    refine wp_block ?_
    refine wp_seq ?_
    obtain ⟨KL, hKL⟩ : ∃ KL, KL = [kval (.pointer (some ⟨g0, 0, none⟩)), kval v, kval (.int .i64 (i : Int)), kval (slPtr v (i * 32)), kval (.agg (cells8 y)), kval (.pointer (some ⟨g1, 0, none⟩)), kval u, kval (.int .i64 (i : Int)), kval (slPtr u (i * 32)), kval (.agg (cells8 y)), kval (.bool false)] := ⟨_, rfl⟩
    have K0 := getK hKL 0
    have K1 := getK hKL 1
    have K2 := getK hKL 2
    have K3 := getK hKL 3
    have K4 := getK hKL 4
    have K5 := getK hKL 5
    have K6 := getK hKL 6
    have K7 := getK hKL 7
    have K8 := getK hKL 8
    have K9 := getK hKL 9
    have K10 := getK hKL 10
    clear hKL
    refine wp_region_kd 31 (by kernel_rfl) (by kernel_rfl) (by kernel_rfl) F5.size KL ?_ ?_
    · refine ⟨?_, ?_, ?_, ?_, ?_, ?_, ?_, ?_, ?_, ?_, ?_, trivial⟩
      · exact asksY rfl fun a W hS hh hd => giv_run (run_fldA (m := 1) (s := 0) rfl (eval_tmp (hh 2 _ rfl (F5.at 2 rfl))) Tryd.underlying30 rfl rfl (by kernel_rfl) (by decide)) K0
      · exact asksY rfl fun a W hS hh hd => giv_run (run_ldF rfl (eval_tmp (hd.vl 0 20 (by kernel_rfl) K0)) ((M0.grow hS).at 1 rfl) rfl (by kernel_rfl)) K1
      · exact asksY rfl fun a W hS hh hd => giv_run (run_mv rfl (eval_tmp (hh 5 _ rfl (F5.at 5 rfl)))) K2
      · exact asksY rfl fun a W hS hh hd => giv_run (run_atP (i := i) rfl (eval_tmp (hd.vl 1 21 (by kernel_rfl) K1)) (eval_tmp (hd.vl 2 22 (by kernel_rfl) K2)) rfl (hV.below (M0.grow hS).below) (by omega) elKey.un (by kernel_rfl)) K3
      · exact asksY rfl fun a W hS hh hd => giv_run (ldKey hLy (run_ldPS (ys := dgC y) rfl (eval_tmp (hd.vl 3 23 (by kernel_rfl) K3)) (hV.below (M0.grow hS).below) (by omega) (fun j u hj => flat_at dgC_len hy j hj) (by kernel_rfl) (by kernel_rfl))) K4
      · exact asksY rfl fun a W hS hh hd => giv_run (run_fldA (m := 1) (s := 0) rfl (eval_tmp (hh 3 _ rfl (F5.at 3 rfl))) Tryd.underlying30 rfl rfl (by kernel_rfl) (by decide)) K5
      · exact asksY rfl fun a W hS hh hd => giv_run (run_ldF rfl (eval_tmp (hd.vl 5 25 (by kernel_rfl) K5)) ((M0.grow hS).at 0 rfl) rfl (by kernel_rfl)) K6
      · exact asksY rfl fun a W hS hh hd => giv_run (run_mv rfl (eval_tmp (hh 5 _ rfl (F5.at 5 rfl)))) K7
      · exact asksY rfl fun a W hS hh hd => giv_run (run_atP (i := i) rfl (eval_tmp (hd.vl 6 26 (by kernel_rfl) K6)) (eval_tmp (hd.vl 7 27 (by kernel_rfl) K7)) rfl (hU.below (M0.grow hS).below) (by omega) elKey.un (by kernel_rfl)) K8
      · exact asksY rfl fun a W hS hh hd => giv_run (ldKey hLy (run_ldPS (ys := dgC y) rfl (eval_tmp (hd.vl 8 28 (by kernel_rfl) K8)) (hU.below (M0.grow hS).below) (by omega) (fun j u hj => flat_at dgC_len hy j hj) (by kernel_rfl) (by kernel_rfl))) K9
      · exact asksY rfl fun a W hS hh hd => giv_run (run_neKB hLy hLy (beq_self_eq_true _) rfl (eval_tmp (hd.vl 4 24 (by kernel_rfl) K4)) (eval_tmp (hd.vl 9 29 (by kernel_rfl) K9))) K10
    · intro a6 w2 hb2 hK
      have e0 := hK.vl 0 20 (by kernel_rfl) K0
      have e1 := hK.vl 1 21 (by kernel_rfl) K1
      have e2 := hK.vl 2 22 (by kernel_rfl) K2
      have e3 := hK.vl 3 23 (by kernel_rfl) K3
      have e4 := hK.vl 4 24 (by kernel_rfl) K4
      have e5 := hK.vl 5 25 (by kernel_rfl) K5
      have e6 := hK.vl 6 26 (by kernel_rfl) K6
      have e7 := hK.vl 7 27 (by kernel_rfl) K7
      have e8 := hK.vl 8 28 (by kernel_rfl) K8
      have e9 := hK.vl 9 29 (by kernel_rfl) K9
      have e10 := hK.vl 10 30 (by kernel_rfl) K10
      have F6 : Fr a6 31 [(2, (.pointer (some ⟨g0, 0, none⟩))), (3, (.pointer (some ⟨g1, 0, none⟩))), (5, (.int .i64 (i : Int))), (13, (.int .i64 (i : Int))), (14, (.pointer (some ⟨g0, 0, none⟩))), (15, v), (16, (.int .i64 (K.length : Int))), (17, (.bool true)), (30, (.bool false))] := (hK.fr F5 [_, _, _, _, _, _, _, _, _, _, _] ⟨e0, e1, e2, e3, e4, e5, e6, e7, e8, e9, e10, trivial⟩).sub ⟨rfl, rfl, rfl, rfl, rfl, rfl, rfl, rfl, rfl, trivial⟩
      have M1 := M0.grow hb2
      clear hK K0 e0 K1 e1 K2 e2 K3 e3 K4 e4 K5 e5 K6 e6 K7 e7 K8 e8 K9 e9 K10 e10
      clear F5 M0
      refine nx ?_
      refine wp_cond_false (F6.ev 30 rfl) ?_
      refine wp_skip ?_
      refine bkEnd ?_
      refine nx ?_
      refine wp_region_lit ?_
      refine mvS F6 rfl rfl rfl rfl rfl fun a7 F7 => ?_
      refine sr F7 (run_add (r := ((i + 1 : Nat) : Int)) rfl (F7.ev 18 rfl) rfl (by rw [IntKind.wrap_i64]; omega)) rfl rfl rfl fun a8 F8 => ?_
      refine asS F8 rfl rfl rfl rfl rfl fun a9 F9 => ?_
      refine sn ?_
      clear F6 F7 F8
      exact ⟨_, by omega, i + 1, by omega, rfl, F9.sub ⟨rfl, rfl, rfl, trivial⟩, M1⟩
  · skip
    refine wp_seq ?_
    refine wsl ?_
    refine mvS F0 rfl rfl rfl rfl rfl fun a1 F1 => ?_
    refine sr F1 (run_fldA (m := 1) (s := 0) rfl (F1.ev 2 rfl) Tryd.underlying30 rfl rfl (by kernel_rfl) (by decide)) rfl rfl rfl fun a2 F2 => ?_
    refine sr (v := v) F2 (run_ldF rfl (F2.ev 14 rfl) (M0.at 1 rfl) rfl (by kernel_rfl)) rfl rfl rfl fun a3 F3 => ?_
    refine sr F3 (run_lenS rfl (F3.ev 15 rfl) (hV.below M0.below) rfl Tryd.underlying28) rfl rfl rfl fun a4 F4 => ?_
    refine sr (v := (.bool false)) F4 (run_lss rfl (F4.ev 13 rfl) (F4.ev 16 rfl) (decide_eq_false (by omega))) rfl rfl rfl fun a5 F5 => ?_
    refine sn ?_
    clear F0 F1 F2 F3 F4
    refine wp_cond_false (F5.ev 17 rfl) ?_
    refine wp_exit ?_
    refine nxExit ?_
    refine nxExit ?_
    refine bkHere ?_
    refine nx ?_
    refine wsl ?_
    refine sr (v := (.bool true)) F5 (run_as rfl rfl) rfl rfl rfl fun a6 F6 => ?_
    refine sn ?_
    clear F5
    refine wp_ret ?_
    exact ret1 F6 rfl rfl ⟨rfl, M0.below⟩
set_option maxRecDepth 100000 in
set_option maxHeartbeats 1000000 in
theorem none_any (w : World) : Calls Tryd.prog 37 #[] w fun e w' => e = .returned (.string ⟨no64.toArray⟩) ∧ Below w.heap.size w w' := by
  refine walk_enter Tryd.func37 rfl rfl rfl fun a0 F0 => ?_
  have M0 := Mem.new w
  refine wsl ?_
  refine sr (v := (.string ⟨List.toArray []⟩)) F0 (run_as rfl rfl) rfl rfl rfl fun a1 F1 => ?_
  refine sn ?_
  clear F0
  refine wsl ?_
  refine sqMakeY (m := 64) F1 M0 rfl rfl rfl rfl rfl rfl (by omega) rfl (by decide) fun g0 a2 w1 hgg0 hb1 F2 M1 => ?_
  refine sr (v := (.string ⟨((List.replicate 64 0).take 64).toArray⟩)) F2 (run_cv rfl (F2.ev 1 rfl) (run_strY (j := 64) (M1.ob 0 rfl) (by first | omega | (simp; done)))) rfl rfl rfl fun a3 F3 => ?_
  refine asS F3 rfl rfl rfl rfl rfl fun a4 F4 => ?_
  refine sn ?_
  clear F1 F2 F3 M0
  refine wp_ret ?_
  exact ret1 F4 rfl rfl ⟨rfl, M1.below⟩
set_option maxRecDepth 100000 in
set_option maxHeartbeats 1000000 in
theorem alive38_any (w : World) (HG : Glob w) : Calls Tryd.prog 12 #[] w fun e w' => e = .returned (.bool true) ∧ Below w.heap.size w w' := by
  refine walk_enter Tryd.func12 rfl rfl rfl fun a0 F0 => ?_
  have M0 := Mem.new w
  refine wsl ?_
  refine sr (v := (.bool false)) F0 (run_as rfl rfl) rfl rfl rfl fun a1 F1 => ?_
  refine sn ?_
  clear F0
  refine wsl ?_
  refine sr (v := (.agg (cells8 ky1))) F1 (run_blt (vs := #[(0, .int .u8 1)]) (cs := cells8 ky1) rfl (bltE1 rfl) (by kernel_rfl)) rfl rfl rfl fun a2 F2 => ?_
  refine sqC (v := (.string ⟨no64.toArray⟩)) F2 M0 (wantedS rfl) (run_call rfl Tryd.func37 (by kernel_rfl) rfl (mapE0 )) rfl (by decide) (none_any w) fun a3 w1 hb1 F3 M1 => ?_
  refine sqT (T := fun u wx => Kp.sat w1.heap.size (.tup4 (.st (.row 76 33 ((ringS [ky1]).length) ((ringS [ky1]).flatMap epF))) (.st (.row 23 32 ([ky1].length) ([ky1].flatMap dgC))) (.row 54 33 ((shS ky1 no64).length) ((shS ky1 no64).flatMap shareC)) (.val (.int .i64 0))) u wx ∧ Below w1.heap.size w1 wx) F3 (wantedS rfl) (run_call rfl Tryd.func13 (by kernel_rfl) rfl (mapE2 (F3.ev 14 rfl) (F3.ev 15 rfl))) rfl (by decide) ((by have h := kmake_any ky1 no64 w1 (HG.below M1.below) ky1_len; rw [ex_make] at h; exact h)) fun u0 a4 w2 hT2 F4 => ?_
  obtain ⟨⟨_, _, vz1c, _, rfl, ⟨vz1a, rfl, hz1a⟩, ⟨vz1b, rfl, hz1b⟩, hz1c, rfl⟩, hb2⟩ := hT2
  have hO1 := OwnR.ofCall M1 (show World.ownsRow w2 _ 76 33 vz1a ((ringS [ky1]).length) ((ringS [ky1]).flatMap epF) from hz1a)
  have hO2 := OwnR.ofCall M1 (show World.ownsRow w2 _ 23 32 vz1b ([ky1].length) ([ky1].flatMap dgC) from hz1b)
  have hO3 := OwnR.ofCall M1 (show World.ownsRow w2 _ 54 33 vz1c ((shS ky1 no64).length) ((shS ky1 no64).flatMap shareC) from hz1c)
  have M2 := M1.grow hb2
  refine mvS F4 rfl rfl rfl rfl rfl fun a5 F5 => ?_
  refine sr (v := (.agg #[vz1a])) F5 (run_ext rfl (F5.ev 13 rfl) rfl) rfl rfl rfl fun a6 F6 => ?_
  refine sr (v := (.agg #[vz1b])) F6 (run_ext rfl (F6.ev 13 rfl) rfl) rfl rfl rfl fun a7 F7 => ?_
  refine sr (v := vz1c) F7 (run_ext rfl (F7.ev 13 rfl) rfl) rfl rfl rfl fun a8 F8 => ?_
  refine sr (v := (.int .i64 0)) F8 (run_ext rfl (F8.ev 13 rfl) rfl) rfl rfl rfl fun a9 F9 => ?_
  refine sqNew (cs := #[.slice none 0 0]) (t := 27) F9 M2 (wantedS rfl) (run_alloc rfl (by kernel_rfl)) rfl (by decide) fun g2 a10 w3 hgg2 hb3 F10 M3 => ?_
  have hO4 := hO1.add (S := isB 27 (#[.slice none 0 0])) hb3 hgg2
  have hO5 := hO2.add (S := isB 27 (#[.slice none 0 0])) hb3 hgg2
  have hO6 := hO3.add (S := isB 27 (#[.slice none 0 0])) hb3 hgg2
  refine sqNew (cs := #[.slice none 0 0]) (t := 30) F10 M3 (wantedS rfl) (run_alloc rfl (by kernel_rfl)) rfl (by decide) fun g3 a11 w4 hgg3 hb4 F11 M4 => ?_
  have hO7 := hO4.add (S := isB 30 (#[.slice none 0 0])) hb4 hgg3
  have hO8 := hO5.add (S := isB 30 (#[.slice none 0 0])) hb4 hgg3
  have hO9 := hO6.add (S := isB 30 (#[.slice none 0 0])) hb4 hgg3
  refine sqStoreG (i := 1) F11 M4 rfl rfl rfl (F11.ev 1 rfl) (F11.ev 17 rfl) rfl szRg rfl rfl (one_own hO7.owns) fun a12 w5 hgr5 F12 M5 => ?_
  have hO10 := hO7.upd 1 (S2 := isB 27 #[vz1a]) rfl hgr5
  have hO11 := hO8.upd 1 (S2 := isB 27 #[vz1a]) rfl hgr5
  have hO12 := hO9.upd 1 (S2 := isB 27 #[vz1a]) rfl hgr5
  refine sqStoreG (i := 0) F12 M5 rfl rfl rfl (F12.ev 2 rfl) (F12.ev 18 rfl) rfl szKy rfl rfl (one_own hO11.owns) fun a13 w6 hgr6 F13 M6 => ?_
  have hO13 := hO10.upd 0 (S2 := isB 30 #[vz1b]) rfl hgr6
  have hO14 := hO11.upd 0 (S2 := isB 30 #[vz1b]) rfl hgr6
  have hO15 := hO12.upd 0 (S2 := isB 30 #[vz1b]) rfl hgr6
  refine asS F13 rfl rfl rfl rfl rfl fun a14 F14 => ?_
  refine asS F14 rfl rfl rfl rfl rfl fun a15 F15 => ?_
  refine sn ?_
  clear F1 F2 F3 F4 F5 F6 F7 F8 F9 F10 F11 F12 F13 F14 M0 M1 M2 M3 M4 M5
  refine wp_seq ?_
  have hs1 := shS_len ky1 no64
  have hs2 := shS_len ky2 no64
  obtain ⟨gs1, cs1, rfl, hcapgs1, M7⟩ := hO15.toMem2 M6 (by first | omega | (simp; done))
  have hO16 := hO13.addFar (S := isRow 54 33 ((shS ky1 no64).length) ((shS ky1 no64).flatMap shareC)) (own_ne_row hO13.owns (M7.ob 0 rfl) (by kernel_rfl))
  have hO17 := hO14.addFar (S := isRow 54 33 ((shS ky1 no64).length) ((shS ky1 no64).flatMap shareC)) (own_ne_row hO14.owns (M7.ob 0 rfl) (by kernel_rfl))
  refine wp_region_p 78 [.val (.agg #[vz1a]), .val (.agg #[vz1b]), .val (.agg (cells8 ky2)), .val (.string ⟨no64.toArray⟩), .tup4 (.st (.row 76 33 ((ringS [ky1, ky2]).length) ((ringS [ky1, ky2]).flatMap epF))) (.st (.row 23 32 ([ky1, ky2].length) ([ky1, ky2].flatMap dgC))) (.row 54 33 ((shS ky2 no64).length) ((shS ky2 no64).flatMap shareC)) (.val (.int .i64 0)), .tup4 (.st (.row 76 33 ((ringS [ky1, ky2]).length) ((ringS [ky1, ky2]).flatMap epF))) (.st (.row 23 32 ([ky1, ky2].length) ([ky1, ky2].flatMap dgC))) (.row 54 33 ((shS ky2 no64).length) ((shS ky2 no64).flatMap shareC)) (.val (.int .i64 0)), .st (.row 76 33 ((ringS [ky1, ky2]).length) ((ringS [ky1, ky2]).flatMap epF)), .st (.row 23 32 ([ky1, ky2].length) ([ky1, ky2].flatMap dgC)), .row 54 33 ((shS ky2 no64).length) ((shS ky2 no64).flatMap shareC), .val (.int .i64 0), .any, .any, .any, .any, .row 54 33 ((shS ky2 no64).length) ((shS ky2 no64).flatMap shareC), .val (.int .i64 0)] [] [⟨10, 5, 12, 27, #[.slice none 0 0], .st (.row 76 33 ((ringS [ky1, ky2]).length) ((ringS [ky1, ky2]).flatMap epF))⟩, ⟨11, 6, 13, 30, #[.slice none 0 0], .st (.row 23 32 ([ky1, ky2].length) ([ky1, ky2].flatMap dgC))⟩] [] [] (by kernel_rfl) (by kernel_rfl) F15.size ?_ ?_ ?_ ?_ (by kernel_rfl) ?_ fun a16 w7 gs hI => ?_
  · intro d hd
    simp only [List.mem_cons, List.not_mem_nil, or_false] at hd
    rcases hd with rfl | rfl <;> exact ⟨Nat.le_of_ble_eq_true (by kernel_rfl), _, rfl, rfl⟩
  · intro b hb
    cases hb
  · intro x y b c hx hy hne
    simp at hx
  · intro r hr
    cases hr
  · refine ⟨?_, ?_, ?_, ?_, ?_, ?_, ?_, ?_, ?_, ?_, ?_, ?_, ?_, ?_, ?_, ?_, trivial⟩
    · refine .val 22 rfl (by simp) (by simp) (by simp) fun a W hK hh hd => ⟨wanted_yes rfl, ?_⟩
      exact givz_run (run_ldB rfl (eval_tmp (hh 1 _ rfl (F15.at 1 rfl))) ((M7.grow hK.below).at 2 rfl) Tryd.underlying27 rfl szRg rfl) rfl
    · refine .val 23 rfl (by simp) (by simp) (by simp) fun a W hK hh hd => ⟨wanted_yes rfl, ?_⟩
      exact givz_run (run_ldB rfl (eval_tmp (hh 2 _ rfl (F15.at 2 rfl))) ((M7.grow hK.below).at 1 rfl) Tryd.underlying30 rfl szKy rfl) rfl
    · refine .val 24 rfl (by simp) (by simp) (by simp) fun a W hK hh hd => ⟨wanted_yes rfl, ?_⟩
      exact givz_run (run_blt (vs := #[(0, .int .u8 2)]) (cs := cells8 ky2) rfl (bltE1 rfl) (by kernel_rfl)) rfl
    · refine .val 25 rfl (by simp) (by simp) (by simp) fun a W hK hh hd => ⟨wanted_yes rfl, ?_⟩
      exact givz_callV (run_call rfl Tryd.func37 (by kernel_rfl) rfl (mapE0 )) (none_any W)
    · refine .val 26 rfl (by simp) (by simp) (by simp) fun a W hK hh hd => ⟨wanted_yes rfl, ?_⟩
      exact givz_call (run_call rfl Tryd.func19 (by kernel_rfl) rfl (mapE4 (eval_tmp (hd.valz (j := 0) (s := 22) (by kernel_rfl) (by simp) rfl rfl)) (eval_tmp (hd.valz (j := 1) (s := 23) (by kernel_rfl) (by simp) rfl rfl)) (eval_tmp (hd.valz (j := 2) (s := 24) (by kernel_rfl) (by simp) rfl rfl)) (eval_tmp (hd.valz (j := 3) (s := 25) (by kernel_rfl) (by simp) rfl rfl)))) hK.size ((by have h := krot_any (ringS [ky1]) [ky1] ky2 no64 vz1a vz1b W (HG.below (M7.grow hK.below).below) (Sl.own (hO16.grow hK.below)) (ringS_c32 _) (Sl.own (hO17.grow hK.below)) (fun x hx => by rw [List.mem_singleton.1 hx]; exact ky1_len) ky2_len (by simp [ringS_len]) (by simp); rw [ex_rot] at h; exact h))
    · refine .val 21 rfl (by simp) (by simp) (by simp) fun a W hK hh hd => ⟨wanted_yes rfl, ?_⟩
      obtain ⟨_, ey4, ⟨_, _, vz_5_4c, _, rfl, ⟨vz_5_4a, rfl, hz_5_4a⟩, ⟨vz_5_4b, rfl, hz_5_4b⟩, hz_5_4c, rfl⟩⟩ := hd.getz (j := 4) (s := 26) (by kernel_rfl) (by simp) rfl rfl
      exact givz_run (run_mv rfl (eval_tmp ey4)) ⟨_, _, _, _, rfl, ⟨_, rfl, hz_5_4a⟩, ⟨_, rfl, hz_5_4b⟩, hz_5_4c, rfl⟩
    · refine .val 27 rfl (by simp) (by simp) (by simp) fun a W hK hh hd => ⟨wanted_yes rfl, ?_⟩
      obtain ⟨_, ey5, ⟨_, _, vz_6_5c, _, rfl, ⟨vz_6_5a, rfl, hz_6_5a⟩, ⟨vz_6_5b, rfl, hz_6_5b⟩, hz_6_5c, rfl⟩⟩ := hd.getz (j := 5) (s := 21) (by kernel_rfl) (by simp) rfl rfl
      exact givz_run (run_ext rfl (eval_tmp ey5) rfl) ⟨_, rfl, hz_6_5a⟩
    · refine .val 28 rfl (by simp) (by simp) (by simp) fun a W hK hh hd => ⟨wanted_yes rfl, ?_⟩
      obtain ⟨_, ey5, ⟨_, _, vz_7_5c, _, rfl, ⟨vz_7_5a, rfl, hz_7_5a⟩, ⟨vz_7_5b, rfl, hz_7_5b⟩, hz_7_5c, rfl⟩⟩ := hd.getz (j := 5) (s := 21) (by kernel_rfl) (by simp) rfl rfl
      exact givz_run (run_ext rfl (eval_tmp ey5) rfl) ⟨_, rfl, hz_7_5b⟩
    · refine .val 29 rfl (by simp) (by simp) (by simp) fun a W hK hh hd => ⟨wanted_yes rfl, ?_⟩
      obtain ⟨_, ey5, ⟨_, _, vz_8_5c, _, rfl, ⟨vz_8_5a, rfl, hz_8_5a⟩, ⟨vz_8_5b, rfl, hz_8_5b⟩, hz_8_5c, rfl⟩⟩ := hd.getz (j := 5) (s := 21) (by kernel_rfl) (by simp) rfl rfl
      exact givz_run (run_ext rfl (eval_tmp ey5) rfl) hz_8_5c
    · refine .val 30 rfl (by simp) (by simp) (by simp) fun a W hK hh hd => ⟨wanted_yes rfl, ?_⟩
      obtain ⟨_, ey5, ⟨_, _, vz_9_5c, _, rfl, ⟨vz_9_5a, rfl, hz_9_5a⟩, ⟨vz_9_5b, rfl, hz_9_5b⟩, hz_9_5c, rfl⟩⟩ := hd.getz (j := 5) (s := 21) (by kernel_rfl) (by simp) rfl rfl
      exact givz_run (run_ext rfl (eval_tmp ey5) rfl) rfl
    · exact .new 0 _ rfl rfl rfl (by simp) (by simp) (by simp) (fun y e hy he => by rcases y with _ | _ | y <;> simp at hy <;> (try subst hy) <;> simp at he ⊢) fun a W => ⟨wanted_yes rfl, run_alloc rfl (by kernel_rfl)⟩
    · exact .new 1 _ rfl rfl rfl (by simp) (by simp) (by simp) (fun y e hy he => by rcases y with _ | _ | y <;> simp at hy <;> (try subst hy) <;> simp at he ⊢) fun a W => ⟨wanted_yes rfl, run_alloc rfl (by kernel_rfl)⟩
    · refine .put 0 _ rfl rfl rfl (by simp) (by simp) (by simp) (fun y e hy he => by rcases y with _ | _ | y <;> simp at hy <;> (try subst hy) <;> simp at he ⊢) (by kernel_rfl) 1 27 _ _ rfl rfl (fun a W hK hh hd => ?_) rfl szRg rfl
      obtain ⟨_, ey6, ⟨vz_12_6, rfl, hz_12_6⟩⟩ := hd.getz (j := 6) (s := 27) (by kernel_rfl) (by simp) rfl rfl
      rw [show a.eval _ = _ from (eval_tmp ey6)]
      exact ⟨⟨_, rfl, hz_12_6⟩, rfl, (one_own hz_12_6)⟩
    · refine .put 1 _ rfl rfl rfl (by simp) (by simp) (by simp) (fun y e hy he => by rcases y with _ | _ | y <;> simp at hy <;> (try subst hy) <;> simp at he ⊢) (by kernel_rfl) 1 30 _ _ rfl rfl (fun a W hK hh hd => ?_) rfl szKy rfl
      obtain ⟨_, ey7, ⟨vz_13_7, rfl, hz_13_7⟩⟩ := hd.getz (j := 7) (s := 28) (by kernel_rfl) (by simp) rfl rfl
      rw [show a.eval _ = _ from (eval_tmp ey7)]
      exact ⟨⟨_, rfl, hz_13_7⟩, rfl, (one_own hz_13_7)⟩
    · refine .val 7 rfl (by simp) (by simp) (by simp) fun a W hK hh hd => ⟨wanted_yes rfl, ?_⟩
      obtain ⟨vz_14_8, ey8, hz_14_8⟩ := hd.getz (j := 8) (s := 29) (by kernel_rfl) (by simp) rfl rfl
      exact givz_run (run_as rfl (eval_tmp ey8)) hz_14_8
    · refine .val 8 rfl (by simp) (by simp) (by simp) fun a W hK hh hd => ⟨wanted_yes rfl, ?_⟩
      exact givz_run (run_as rfl (eval_tmp (hd.valz (j := 9) (s := 30) (by kernel_rfl) (by simp) rfl rfl))) rfl
  obtain ⟨vz4_, e7_, hz4_⟩ := hI.val 14 _ 7 rfl rfl rfl (by simp) (fun _ h => by cases h)
  have e8_ : a16.tmps[8]? = some (.int .i64 0) := by
    obtain ⟨vq, hq1, hq2⟩ := hI.val 15 _ 8 rfl rfl rfl (by simp) (fun _ h => by cases h)
    rw [hq1]
    exact congrArg some hq2
  obtain ⟨pg5, qg5, _, fg5⟩ := hI.blk 0 _ rfl rfl
  obtain ⟨pg6, qg6, _, fg6⟩ := hI.blk 1 _ rfl rfl
  have neg6 := hI.apart 0 1 _ _ rfl rfl (by decide) rfl rfl
  generalize gs 0 = g5 at pg5 qg5 fg5 neg6
  generalize gs 1 = g6 at pg6 qg6 fg6 neg6
  obtain ⟨_, Bg5, ⟨vz7_, rfl, hz7_⟩⟩ := fg5 rfl
  have Bg5 : Blk w7 g5 27 (#[vz7_]) := Bg5
  obtain ⟨_, Bg6, ⟨vz8_, rfl, hz8_⟩⟩ := fg6 rfl
  have Bg6 : Blk w7 g6 30 (#[vz8_]) := Bg6
  have hb7 := KeepW.below hI.keep
  have M8 := M7.grow hb7
  have hO18 := hO16.grow hb7
  have hO19 := hO17.grow hb7
  have hO20 := OwnR.ofCall M7 (show World.ownsRow w7 _ 54 33 vz4_ ((shS ky2 no64).length) ((shS ky2 no64).flatMap shareC) from hz4_)
  have hO21 := OwnR.ofCall M7 (show World.ownsRow w7 _ 76 33 vz7_ ((ringS [ky1, ky2]).length) ((ringS [ky1, ky2]).flatMap epF) from hz7_)
  have hO22 := OwnR.ofCall M7 (show World.ownsRow w7 _ 23 32 vz8_ ([ky1, ky2].length) ([ky1, ky2].flatMap dgC) from hz8_)
  have hO23 := hO18.addFar (S := isB 27 (#[vz7_])) (own_ne_ge hO16.owns qg5)
  have hO24 := hO19.addFar (S := isB 27 (#[vz7_])) (own_ne_ge hO17.owns qg5)
  have hO25 := hO20.addFar (S := isB 27 (#[vz7_])) (own_ne_ty hO20.owns Bg5 (by kernel_rfl))
  have hO26 := hO21.addFar (S := isB 27 (#[vz7_])) (own_ne_ty hO21.owns Bg5 (by kernel_rfl))
  have hO27 := hO22.addFar (S := isB 27 (#[vz7_])) (own_ne_ty hO22.owns Bg5 (by kernel_rfl))
  have M9 := M8.put1 (cs := #[vz7_]) (Nat.le_trans M7.below.size qg5) Bg5 (mem_far_new M7 qg5)
  have hO28 := hO23.addFar (S := isB 30 (#[vz8_])) (own_ne_ge hO16.owns qg6)
  have hO29 := hO24.addFar (S := isB 30 (#[vz8_])) (own_ne_ge hO17.owns qg6)
  have hO30 := hO25.addFar (S := isB 30 (#[vz8_])) (own_ne_ty hO25.owns Bg6 (by kernel_rfl))
  have hO31 := hO26.addFar (S := isB 30 (#[vz8_])) (own_ne_ty hO26.owns Bg6 (by kernel_rfl))
  have hO32 := hO27.addFar (S := isB 30 (#[vz8_])) (own_ne_ty hO27.owns Bg6 (by kernel_rfl))
  have M10 := M9.put1 (cs := #[vz8_]) (Nat.le_trans M7.below.size qg6) Bg6 (far_cons neg6 (mem_far_new M7 qg6))
  have F16 : Fr a16 78 [(0, (.bool false)), (1, (.pointer (some ⟨g2, 0, none⟩))), (2, (.pointer (some ⟨g3, 0, none⟩))), (3, (.slice (some ⟨gs1, 0, none⟩) ((shS ky1 no64).length) cs1)), (4, (.int .i64 0)), (5, (.pointer (some ⟨g5, 0, none⟩))), (6, (.pointer (some ⟨g6, 0, none⟩))), (7, vz4_), (8, (.int .i64 0)), (13, (.tuple #[(.agg #[vz1a]), (.agg #[vz1b]), (.slice (some ⟨gs1, 0, none⟩) ((shS ky1 no64).length) cs1), (.int .i64 0)])), (14, (.agg (cells8 ky1))), (15, (.string ⟨no64.toArray⟩)), (16, (.tuple #[(.agg #[vz1a]), (.agg #[vz1b]), (.slice (some ⟨gs1, 0, none⟩) ((shS ky1 no64).length) cs1), (.int .i64 0)])), (17, (.agg #[vz1a])), (18, (.agg #[vz1b])), (19, (.slice (some ⟨gs1, 0, none⟩) ((shS ky1 no64).length) cs1)), (20, (.int .i64 0))] := fr_of_holds hI.tsz (hI.defers.trans F15.defers) ⟨hI.had 0 _ rfl (F15.at 0 rfl), hI.had 1 _ rfl (F15.at 1 rfl), hI.had 2 _ rfl (F15.at 2 rfl), hI.had 3 _ rfl (F15.at 3 rfl), hI.had 4 _ rfl (F15.at 4 rfl), pg5, pg6, e7_, e8_, hI.had 13 _ rfl (F15.at 13 rfl), hI.had 14 _ rfl (F15.at 14 rfl), hI.had 15 _ rfl (F15.at 15 rfl), hI.had 16 _ rfl (F15.at 16 rfl), hI.had 17 _ rfl (F15.at 17 rfl), hI.had 18 _ rfl (F15.at 18 rfl), hI.had 19 _ rfl (F15.at 19 rfl), hI.had 20 _ rfl (F15.at 20 rfl), trivial⟩
  clear F15 M7 M8 M9
  refine nx ?_
  refine wp_seq ?_
  refine wsl ?_
  refine mvS F16 rfl rfl rfl rfl rfl fun a17 F17 => ?_
  refine sr (v := (.bool false)) F17 (run_nei rfl (F17.ev 31 rfl) rfl (bne_self_eq_false _)) rfl rfl rfl fun a18 F18 => ?_
  refine mvS F18 rfl rfl rfl rfl rfl fun a19 F19 => ?_
  refine sq (v := (.int .i64 0)) F19 (wantedG F19 rfl rfl rfl rfl rfl) (run_mv rfl (F19.ev 8 rfl)) rfl (by decide) fun a20 F20 => ?_
  refine sq (v := (.bool false)) F20 (wantedG F20 rfl rfl rfl rfl rfl) (run_nei rfl (F20.ev 34 rfl) rfl (bne_self_eq_false _)) rfl (by decide) fun a21 F21 => ?_
  refine sr (v := (.bool false)) F21 (run_pick rfl (F21.ev 33 rfl) rfl (F21.ev 35 rfl)) rfl rfl rfl fun a22 F22 => ?_
  refine mvS F22 rfl rfl rfl rfl rfl fun a23 F23 => ?_
  refine sq (v := (.slice (some ⟨gs1, 0, none⟩) ((shS ky1 no64).length) cs1)) F23 (wantedG F23 rfl rfl rfl rfl rfl) (run_mv rfl (F23.ev 3 rfl)) rfl (by decide) fun a24 F24 => ?_
  refine sq (v := (.int .i64 ((shS ky1 no64).length : Int))) F24 (wantedG F24 rfl rfl rfl rfl rfl) (run_lenS rfl (F24.ev 38 rfl) (slOfRow (c := cs1) (M10.ob 2 rfl)) rfl Tryd.underlying31) rfl (by decide) fun a25 F25 => ?_
  refine sq (v := (.bool false)) F25 (wantedG F25 rfl rfl rfl rfl rfl) (run_nei rfl (F25.ev 39 rfl) rfl (bne_eq_false_iff_eq.2 (by omega))) rfl (by decide) fun a26 F26 => ?_
  refine sr (v := (.bool false)) F26 (run_pick rfl (F26.ev 37 rfl) rfl (F26.ev 40 rfl)) rfl rfl rfl fun a27 F27 => ?_
  refine mvS F27 rfl rfl rfl rfl rfl fun a28 F28 => ?_
  refine sq (v := vz4_) F28 (wantedG F28 rfl rfl rfl rfl rfl) (run_mv rfl (F28.ev 7 rfl)) rfl (by decide) fun a29 F29 => ?_
  refine sq (v := (.int .i64 ((shS ky2 no64).length : Int))) F29 (wantedG F29 rfl rfl rfl rfl rfl) (run_lenS rfl (F29.ev 43 rfl) (Sl.own hO30) rfl Tryd.underlying31) rfl (by decide) fun a30 F30 => ?_
  refine sq (v := (.bool false)) F30 (wantedG F30 rfl rfl rfl rfl rfl) (run_nei rfl (F30.ev 44 rfl) rfl (bne_eq_false_iff_eq.2 (by omega))) rfl (by decide) fun a31 F31 => ?_
  refine sr (v := (.bool false)) F31 (run_pick rfl (F31.ev 42 rfl) rfl (F31.ev 45 rfl)) rfl rfl rfl fun a32 F32 => ?_
  refine sn ?_
  clear F16 F17 F18 F19 F20 F21 F22 F23 F24 F25 F26 F27 F28 F29 F30 F31
  refine cfs (F32.ev 46 rfl) ?_
  refine wp_seq ?_
  have hEw := ringS_wr ex32
  obtain ⟨gs2, cs2, rfl, hcapgs2, M11⟩ := hO30.toMem2 M10 (by first | omega | (simp; done))
  have hO33 := hO28.addFar (S := isRow 54 33 ((shS ky2 no64).length) ((shS ky2 no64).flatMap shareC)) (own_ne_row hO28.owns (M11.ob 0 rfl) (by kernel_rfl))
  have hO34 := hO29.addFar (S := isRow 54 33 ((shS ky2 no64).length) ((shS ky2 no64).flatMap shareC)) (own_ne_row hO29.owns (M11.ob 0 rfl) (by kernel_rfl))
  have hO35 := hO31.addFar (S := isRow 54 33 ((shS ky2 no64).length) ((shS ky2 no64).flatMap shareC)) (own_ne_row hO31.owns (M11.ob 0 rfl) (by kernel_rfl))
  have hO36 := hO32.addFar (S := isRow 54 33 ((shS ky2 no64).length) ((shS ky2 no64).flatMap shareC)) (own_ne_row hO32.owns (M11.ob 0 rfl) (by kernel_rfl))
  refine wp_region_p 78 [.val (.agg #[vz7_]), .val (.slice (some ⟨gs2, 0, none⟩) ((shS ky2 no64).length) cs2), .val (.slice (some ⟨gs2, 2 * 33, none⟩) ((shS ky2 no64).length - 2) (cs2 - 2)), .tup2 (.st (.row 23 32 ([ky1, ky2].length) ([ky1, ky2].flatMap dgC))) (.val (.int .i64 0)), .tup2 (.st (.row 23 32 ([ky1, ky2].length) ([ky1, ky2].flatMap dgC))) (.val (.int .i64 0)), .st (.row 23 32 ([ky1, ky2].length) ([ky1, ky2].flatMap dgC)), .val (.int .i64 0), .any, .any, .val (.int .i64 0)] [] [⟨7, 9, 8, 30, #[.slice none 0 0], .st (.row 23 32 ([ky1, ky2].length) ([ky1, ky2].flatMap dgC))⟩] [] [] (by kernel_rfl) (by kernel_rfl) F32.size ?_ ?_ ?_ ?_ (by kernel_rfl) ?_ fun a33 w8 gs hI => ?_
  · intro d hd
    simp only [List.mem_cons, List.not_mem_nil, or_false] at hd
    rcases hd with rfl <;> exact ⟨Nat.le_of_ble_eq_true (by kernel_rfl), _, rfl, rfl⟩
  · intro b hb
    cases hb
  · intro x y b c hx hy hne
    simp at hx
  · intro r hr
    cases hr
  · refine ⟨?_, ?_, ?_, ?_, ?_, ?_, ?_, ?_, ?_, ?_, trivial⟩
    · refine .val 48 rfl (by simp) (by simp) (by simp) fun a W hK hh hd => ⟨wanted_yes rfl, ?_⟩
      exact givz_run (run_ldB rfl (eval_tmp (hh 5 _ rfl (F32.at 5 rfl))) ((M11.grow hK.below).at 2 rfl) Tryd.underlying27 rfl szRg rfl) rfl
    · refine .val 49 rfl (by simp) (by simp) (by simp) fun a W hK hh hd => ⟨wanted_yes rfl, ?_⟩
      exact givz_run (run_mv rfl (eval_tmp (hh 7 _ rfl (F32.at 7 rfl)))) rfl
    · refine .val 50 rfl (by simp) (by simp) (by simp) fun a W hK hh hd => ⟨wanted_yes rfl, ?_⟩
      exact givz_run (run_fromS (i := 2) (sz := 33) rfl (eval_tmp (hd.valz (j := 1) (s := 49) (by kernel_rfl) (by simp) rfl rfl)) rfl rfl (by omega) (by omega) (by decide) eltSh.un (by kernel_rfl)) rfl
    · refine .val 51 rfl (by simp) (by simp) (by simp) fun a W hK hh hd => ⟨wanted_yes rfl, ?_⟩
      exact givz_call (run_call rfl Tryd.func23 (by kernel_rfl) rfl (mapE2 (eval_tmp (hd.valz (j := 0) (s := 48) (by kernel_rfl) (by simp) rfl rfl)) (eval_tmp (hd.valz (j := 2) (s := 50) (by kernel_rfl) (by simp) rfl rfl)))) hK.size ((by have h := kopen_any (ringS [ky1, ky2]) (((shS ky2 no64).drop 2).take ((shS ky2 no64).length - 2)) vz7_ (.slice (some ⟨gs2, 2 * 33, none⟩) ((shS ky2 no64).length - 2) (cs2 - 2)) W (HG.below (M11.grow hK.below).below) (Sl.own (hO35.grow hK.below)) (ringS_c32 _) hEw (slMid (c := cs2) (i := 2) (j := (shS ky2 no64).length) shareC_len ((M11.grow hK.below).ob 0 rfl) (by omega) (by omega)) (by simp [ringS_len]) (by simp [shS_len]); rw [ex_open (by rw [shS_len])] at h; exact h))
    · refine .val 47 rfl (by simp) (by simp) (by simp) fun a W hK hh hd => ⟨wanted_yes rfl, ?_⟩
      obtain ⟨_, ey3, ⟨_, _, rfl, ⟨vz_4_3a, rfl, hz_4_3a⟩, rfl⟩⟩ := hd.getz (j := 3) (s := 51) (by kernel_rfl) (by simp) rfl rfl
      exact givz_run (run_mv rfl (eval_tmp ey3)) ⟨_, _, rfl, ⟨_, rfl, hz_4_3a⟩, rfl⟩
    · refine .val 52 rfl (by simp) (by simp) (by simp) fun a W hK hh hd => ⟨wanted_yes rfl, ?_⟩
      obtain ⟨_, ey4, ⟨_, _, rfl, ⟨vz_5_4a, rfl, hz_5_4a⟩, rfl⟩⟩ := hd.getz (j := 4) (s := 47) (by kernel_rfl) (by simp) rfl rfl
      exact givz_run (run_ext rfl (eval_tmp ey4) rfl) ⟨_, rfl, hz_5_4a⟩
    · refine .val 53 rfl (by simp) (by simp) (by simp) fun a W hK hh hd => ⟨wanted_yes rfl, ?_⟩
      obtain ⟨_, ey4, ⟨_, _, rfl, ⟨vz_6_4a, rfl, hz_6_4a⟩, rfl⟩⟩ := hd.getz (j := 4) (s := 47) (by kernel_rfl) (by simp) rfl rfl
      exact givz_run (run_ext rfl (eval_tmp ey4) rfl) rfl
    · exact .new 0 _ rfl rfl rfl (by simp) (by simp) (by simp) (fun y e hy he => by rcases y with _ | _ | y <;> simp at hy <;> (try subst hy) <;> simp at he ⊢) fun a W => ⟨wanted_yes rfl, run_alloc rfl (by kernel_rfl)⟩
    · refine .put 0 _ rfl rfl rfl (by simp) (by simp) (by simp) (fun y e hy he => by rcases y with _ | _ | y <;> simp at hy <;> (try subst hy) <;> simp at he ⊢) (by kernel_rfl) 1 30 _ _ rfl rfl (fun a W hK hh hd => ?_) rfl szKy rfl
      obtain ⟨_, ey5, ⟨vz_8_5, rfl, hz_8_5⟩⟩ := hd.getz (j := 5) (s := 52) (by kernel_rfl) (by simp) rfl rfl
      rw [show a.eval _ = _ from (eval_tmp ey5)]
      exact ⟨⟨_, rfl, hz_8_5⟩, rfl, (one_own hz_8_5)⟩
    · refine .val 10 rfl (by simp) (by simp) (by simp) fun a W hK hh hd => ⟨wanted_yes rfl, ?_⟩
      exact givz_run (run_as rfl (eval_tmp (hd.valz (j := 6) (s := 53) (by kernel_rfl) (by simp) rfl rfl))) rfl
  have e10_ : a33.tmps[10]? = some (.int .i64 0) := by
    obtain ⟨vq, hq1, hq2⟩ := hI.val 9 _ 10 rfl rfl rfl (by simp) (fun _ h => by cases h)
    rw [hq1]
    exact congrArg some hq2
  obtain ⟨pg9, qg9, _, fg9⟩ := hI.blk 0 _ rfl rfl
  generalize gs 0 = g9 at pg9 qg9 fg9
  obtain ⟨_, Bg9, ⟨vz10_, rfl, hz10_⟩⟩ := fg9 rfl
  have Bg9 : Blk w8 g9 30 (#[vz10_]) := Bg9
  have hb8 := KeepW.below hI.keep
  have M12 := M11.grow hb8
  have hO37 := hO33.grow hb8
  have hO38 := hO34.grow hb8
  have hO39 := hO35.grow hb8
  have hO40 := hO36.grow hb8
  have hO41 := OwnR.ofCall M11 (show World.ownsRow w8 _ 23 32 vz10_ ([ky1, ky2].length) ([ky1, ky2].flatMap dgC) from hz10_)
  have hO42 := hO37.addFar (S := isB 30 (#[vz10_])) (own_ne_ge hO33.owns qg9)
  have hO43 := hO38.addFar (S := isB 30 (#[vz10_])) (own_ne_ge hO34.owns qg9)
  have hO44 := hO39.addFar (S := isB 30 (#[vz10_])) (own_ne_ge hO35.owns qg9)
  have hO45 := hO40.addFar (S := isB 30 (#[vz10_])) (own_ne_ge hO36.owns qg9)
  have hO46 := hO41.addFar (S := isB 30 (#[vz10_])) (own_ne_ty hO41.owns Bg9 (by kernel_rfl))
  have M13 := M12.put1 (cs := #[vz10_]) (Nat.le_trans M11.below.size qg9) Bg9 (mem_far_new M11 qg9)
  have F33 : Fr a33 78 [(0, (.bool false)), (1, (.pointer (some ⟨g2, 0, none⟩))), (2, (.pointer (some ⟨g3, 0, none⟩))), (3, (.slice (some ⟨gs1, 0, none⟩) ((shS ky1 no64).length) cs1)), (4, (.int .i64 0)), (5, (.pointer (some ⟨g5, 0, none⟩))), (6, (.pointer (some ⟨g6, 0, none⟩))), (7, (.slice (some ⟨gs2, 0, none⟩) ((shS ky2 no64).length) cs2)), (8, (.int .i64 0)), (9, (.pointer (some ⟨g9, 0, none⟩))), (10, (.int .i64 0)), (13, (.tuple #[(.agg #[vz1a]), (.agg #[vz1b]), (.slice (some ⟨gs1, 0, none⟩) ((shS ky1 no64).length) cs1), (.int .i64 0)])), (14, (.agg (cells8 ky1))), (15, (.string ⟨no64.toArray⟩)), (16, (.tuple #[(.agg #[vz1a]), (.agg #[vz1b]), (.slice (some ⟨gs1, 0, none⟩) ((shS ky1 no64).length) cs1), (.int .i64 0)])), (17, (.agg #[vz1a])), (18, (.agg #[vz1b])), (19, (.slice (some ⟨gs1, 0, none⟩) ((shS ky1 no64).length) cs1)), (20, (.int .i64 0)), (31, (.int .i64 0)), (32, (.bool false)), (33, (.bool false)), (34, (.int .i64 0)), (35, (.bool false)), (36, (.bool false)), (37, (.bool false)), (38, (.slice (some ⟨gs1, 0, none⟩) ((shS ky1 no64).length) cs1)), (39, (.int .i64 ((shS ky1 no64).length : Int))), (40, (.bool false)), (41, (.bool false)), (42, (.bool false)), (43, (.slice (some ⟨gs2, 0, none⟩) ((shS ky2 no64).length) cs2)), (44, (.int .i64 ((shS ky2 no64).length : Int))), (45, (.bool false)), (46, (.bool false))] := fr_of_holds hI.tsz (hI.defers.trans F32.defers) ⟨hI.had 0 _ rfl (F32.at 0 rfl), hI.had 1 _ rfl (F32.at 1 rfl), hI.had 2 _ rfl (F32.at 2 rfl), hI.had 3 _ rfl (F32.at 3 rfl), hI.had 4 _ rfl (F32.at 4 rfl), hI.had 5 _ rfl (F32.at 5 rfl), hI.had 6 _ rfl (F32.at 6 rfl), hI.had 7 _ rfl (F32.at 7 rfl), hI.had 8 _ rfl (F32.at 8 rfl), pg9, e10_, hI.had 13 _ rfl (F32.at 13 rfl), hI.had 14 _ rfl (F32.at 14 rfl), hI.had 15 _ rfl (F32.at 15 rfl), hI.had 16 _ rfl (F32.at 16 rfl), hI.had 17 _ rfl (F32.at 17 rfl), hI.had 18 _ rfl (F32.at 18 rfl), hI.had 19 _ rfl (F32.at 19 rfl), hI.had 20 _ rfl (F32.at 20 rfl), hI.had 31 _ rfl (F32.at 31 rfl), hI.had 32 _ rfl (F32.at 32 rfl), hI.had 33 _ rfl (F32.at 33 rfl), hI.had 34 _ rfl (F32.at 34 rfl), hI.had 35 _ rfl (F32.at 35 rfl), hI.had 36 _ rfl (F32.at 36 rfl), hI.had 37 _ rfl (F32.at 37 rfl), hI.had 38 _ rfl (F32.at 38 rfl), hI.had 39 _ rfl (F32.at 39 rfl), hI.had 40 _ rfl (F32.at 40 rfl), hI.had 41 _ rfl (F32.at 41 rfl), hI.had 42 _ rfl (F32.at 42 rfl), hI.had 43 _ rfl (F32.at 43 rfl), hI.had 44 _ rfl (F32.at 44 rfl), hI.had 45 _ rfl (F32.at 45 rfl), hI.had 46 _ rfl (F32.at 46 rfl), trivial⟩
  clear F32 M11 M12
  refine nx ?_
  refine wp_seq ?_
  refine wp_region_p 78 [.val (.agg #[vz7_]), .val (.slice (some ⟨gs1, 0, none⟩) ((shS ky1 no64).length) cs1), .val (.slice (some ⟨gs1, 0, none⟩) 3 cs1), .tup2 (.st (.row 23 32 (([] : List (List UInt8)).length) (([] : List (List UInt8)).flatMap dgC))) (.val (.int .i64 21)), .tup2 (.st (.row 23 32 (([] : List (List UInt8)).length) (([] : List (List UInt8)).flatMap dgC))) (.val (.int .i64 21)), .st (.row 23 32 (([] : List (List UInt8)).length) (([] : List (List UInt8)).flatMap dgC)), .val (.int .i64 21), .any, .any, .val (.int .i64 21)] [] [⟨7, 11, 8, 30, #[.slice none 0 0], .st (.row 23 32 (([] : List (List UInt8)).length) (([] : List (List UInt8)).flatMap dgC))⟩] [] [] (by kernel_rfl) (by kernel_rfl) F33.size ?_ ?_ ?_ ?_ (by kernel_rfl) ?_ fun a34 w9 gs hI => ?_
  · intro d hd
    simp only [List.mem_cons, List.not_mem_nil, or_false] at hd
    rcases hd with rfl <;> exact ⟨Nat.le_of_ble_eq_true (by kernel_rfl), _, rfl, rfl⟩
  · intro b hb
    cases hb
  · intro x y b c hx hy hne
    simp at hx
  · intro r hr
    cases hr
  · refine ⟨?_, ?_, ?_, ?_, ?_, ?_, ?_, ?_, ?_, ?_, trivial⟩
    · refine .val 55 rfl (by simp) (by simp) (by simp) fun a W hK hh hd => ⟨wanted_yes rfl, ?_⟩
      exact givz_run (run_ldB rfl (eval_tmp (hh 5 _ rfl (F33.at 5 rfl))) ((M13.grow hK.below).at 3 rfl) Tryd.underlying27 rfl szRg rfl) rfl
    · refine .val 56 rfl (by simp) (by simp) (by simp) fun a W hK hh hd => ⟨wanted_yes rfl, ?_⟩
      exact givz_run (run_mv rfl (eval_tmp (hh 3 _ rfl (F33.at 3 rfl)))) rfl
    · refine .val 57 rfl (by simp) (by simp) (by simp) fun a W hK hh hd => ⟨wanted_yes rfl, ?_⟩
      exact givz_run (run_toS (j := 3) (z := 33) rfl (eval_tmp (hd.valz (j := 1) (s := 56) (by kernel_rfl) (by simp) rfl rfl)) rfl rfl (by omega) eltSh.un (by kernel_rfl)) rfl
    · refine .val 58 rfl (by simp) (by simp) (by simp) fun a W hK hh hd => ⟨wanted_yes rfl, ?_⟩
      exact givz_call (run_call rfl Tryd.func23 (by kernel_rfl) rfl (mapE2 (eval_tmp (hd.valz (j := 0) (s := 55) (by kernel_rfl) (by simp) rfl rfl)) (eval_tmp (hd.valz (j := 2) (s := 57) (by kernel_rfl) (by simp) rfl rfl)))) hK.size ((by have h := kopen_any (ringS [ky1, ky2]) ((shS ky1 no64).take 3) vz7_ (.slice (some ⟨gs1, 0, none⟩) 3 cs1) W (HG.below (M13.grow hK.below).below) (Sl.own (hO44.grow hK.below)) (ringS_c32 _) hEw (slFront (c := cs1) (j := 3) shareC_len ((M13.grow hK.below).ob 4 rfl) (by omega)) (by simp [ringS_len]) (by simp [shS_len]); rw [ex_shut rfl] at h; exact h))
    · refine .val 54 rfl (by simp) (by simp) (by simp) fun a W hK hh hd => ⟨wanted_yes rfl, ?_⟩
      obtain ⟨_, ey3, ⟨_, _, rfl, ⟨vz_4_3a, rfl, hz_4_3a⟩, rfl⟩⟩ := hd.getz (j := 3) (s := 58) (by kernel_rfl) (by simp) rfl rfl
      exact givz_run (run_mv rfl (eval_tmp ey3)) ⟨_, _, rfl, ⟨_, rfl, hz_4_3a⟩, rfl⟩
    · refine .val 59 rfl (by simp) (by simp) (by simp) fun a W hK hh hd => ⟨wanted_yes rfl, ?_⟩
      obtain ⟨_, ey4, ⟨_, _, rfl, ⟨vz_5_4a, rfl, hz_5_4a⟩, rfl⟩⟩ := hd.getz (j := 4) (s := 54) (by kernel_rfl) (by simp) rfl rfl
      exact givz_run (run_ext rfl (eval_tmp ey4) rfl) ⟨_, rfl, hz_5_4a⟩
    · refine .val 60 rfl (by simp) (by simp) (by simp) fun a W hK hh hd => ⟨wanted_yes rfl, ?_⟩
      obtain ⟨_, ey4, ⟨_, _, rfl, ⟨vz_6_4a, rfl, hz_6_4a⟩, rfl⟩⟩ := hd.getz (j := 4) (s := 54) (by kernel_rfl) (by simp) rfl rfl
      exact givz_run (run_ext rfl (eval_tmp ey4) rfl) rfl
    · exact .new 0 _ rfl rfl rfl (by simp) (by simp) (by simp) (fun y e hy he => by rcases y with _ | _ | y <;> simp at hy <;> (try subst hy) <;> simp at he ⊢) fun a W => ⟨wanted_yes rfl, run_alloc rfl (by kernel_rfl)⟩
    · refine .put 0 _ rfl rfl rfl (by simp) (by simp) (by simp) (fun y e hy he => by rcases y with _ | _ | y <;> simp at hy <;> (try subst hy) <;> simp at he ⊢) (by kernel_rfl) 1 30 _ _ rfl rfl (fun a W hK hh hd => ?_) rfl szKy rfl
      obtain ⟨_, ey5, ⟨vz_8_5, rfl, hz_8_5⟩⟩ := hd.getz (j := 5) (s := 59) (by kernel_rfl) (by simp) rfl rfl
      rw [show a.eval _ = _ from (eval_tmp ey5)]
      exact ⟨⟨_, rfl, hz_8_5⟩, rfl, (one_own hz_8_5)⟩
    · refine .val 12 rfl (by simp) (by simp) (by simp) fun a W hK hh hd => ⟨wanted_yes rfl, ?_⟩
      exact givz_run (run_as rfl (eval_tmp (hd.valz (j := 6) (s := 60) (by kernel_rfl) (by simp) rfl rfl))) rfl
  have e12_ : a34.tmps[12]? = some (.int .i64 21) := by
    obtain ⟨vq, hq1, hq2⟩ := hI.val 9 _ 12 rfl rfl rfl (by simp) (fun _ h => by cases h)
    rw [hq1]
    exact congrArg some hq2
  obtain ⟨pg11, qg11, _, fg11⟩ := hI.blk 0 _ rfl rfl
  generalize gs 0 = g11 at pg11 qg11 fg11
  obtain ⟨_, Bg11, ⟨vz12_, rfl, hz12_⟩⟩ := fg11 rfl
  have Bg11 : Blk w9 g11 30 (#[vz12_]) := Bg11
  have hb9 := KeepW.below hI.keep
  have M14 := M13.grow hb9
  have hO47 := hO42.grow hb9
  have hO48 := hO43.grow hb9
  have hO49 := hO44.grow hb9
  have hO50 := hO45.grow hb9
  have hO51 := hO46.grow hb9
  have hO52 := OwnR.ofCall M13 (show World.ownsRow w9 _ 23 32 vz12_ (([] : List (List UInt8)).length) (([] : List (List UInt8)).flatMap dgC) from hz12_)
  have hO53 := hO47.addFar (S := isB 30 (#[vz12_])) (own_ne_ge hO42.owns qg11)
  have hO54 := hO48.addFar (S := isB 30 (#[vz12_])) (own_ne_ge hO43.owns qg11)
  have hO55 := hO49.addFar (S := isB 30 (#[vz12_])) (own_ne_ge hO44.owns qg11)
  have hO56 := hO50.addFar (S := isB 30 (#[vz12_])) (own_ne_ge hO45.owns qg11)
  have hO57 := hO51.addFar (S := isB 30 (#[vz12_])) (own_ne_ge hO46.owns qg11)
  have hO58 := hO52.addFar (S := isB 30 (#[vz12_])) (own_ne_ty hO52.owns Bg11 (by kernel_rfl))
  have M15 := M14.put1 (cs := #[vz12_]) (Nat.le_trans M13.below.size qg11) Bg11 (mem_far_new M13 qg11)
  have F34 : Fr a34 78 [(0, (.bool false)), (1, (.pointer (some ⟨g2, 0, none⟩))), (2, (.pointer (some ⟨g3, 0, none⟩))), (3, (.slice (some ⟨gs1, 0, none⟩) ((shS ky1 no64).length) cs1)), (4, (.int .i64 0)), (5, (.pointer (some ⟨g5, 0, none⟩))), (6, (.pointer (some ⟨g6, 0, none⟩))), (7, (.slice (some ⟨gs2, 0, none⟩) ((shS ky2 no64).length) cs2)), (8, (.int .i64 0)), (9, (.pointer (some ⟨g9, 0, none⟩))), (10, (.int .i64 0)), (12, (.int .i64 21)), (13, (.tuple #[(.agg #[vz1a]), (.agg #[vz1b]), (.slice (some ⟨gs1, 0, none⟩) ((shS ky1 no64).length) cs1), (.int .i64 0)])), (14, (.agg (cells8 ky1))), (15, (.string ⟨no64.toArray⟩)), (16, (.tuple #[(.agg #[vz1a]), (.agg #[vz1b]), (.slice (some ⟨gs1, 0, none⟩) ((shS ky1 no64).length) cs1), (.int .i64 0)])), (17, (.agg #[vz1a])), (18, (.agg #[vz1b])), (19, (.slice (some ⟨gs1, 0, none⟩) ((shS ky1 no64).length) cs1)), (20, (.int .i64 0)), (31, (.int .i64 0)), (32, (.bool false)), (33, (.bool false)), (34, (.int .i64 0)), (35, (.bool false)), (36, (.bool false)), (37, (.bool false)), (38, (.slice (some ⟨gs1, 0, none⟩) ((shS ky1 no64).length) cs1)), (39, (.int .i64 ((shS ky1 no64).length : Int))), (40, (.bool false)), (41, (.bool false)), (42, (.bool false)), (43, (.slice (some ⟨gs2, 0, none⟩) ((shS ky2 no64).length) cs2)), (44, (.int .i64 ((shS ky2 no64).length : Int))), (45, (.bool false)), (46, (.bool false))] := fr_of_holds hI.tsz (hI.defers.trans F33.defers) ⟨hI.had 0 _ rfl (F33.at 0 rfl), hI.had 1 _ rfl (F33.at 1 rfl), hI.had 2 _ rfl (F33.at 2 rfl), hI.had 3 _ rfl (F33.at 3 rfl), hI.had 4 _ rfl (F33.at 4 rfl), hI.had 5 _ rfl (F33.at 5 rfl), hI.had 6 _ rfl (F33.at 6 rfl), hI.had 7 _ rfl (F33.at 7 rfl), hI.had 8 _ rfl (F33.at 8 rfl), hI.had 9 _ rfl (F33.at 9 rfl), hI.had 10 _ rfl (F33.at 10 rfl), e12_, hI.had 13 _ rfl (F33.at 13 rfl), hI.had 14 _ rfl (F33.at 14 rfl), hI.had 15 _ rfl (F33.at 15 rfl), hI.had 16 _ rfl (F33.at 16 rfl), hI.had 17 _ rfl (F33.at 17 rfl), hI.had 18 _ rfl (F33.at 18 rfl), hI.had 19 _ rfl (F33.at 19 rfl), hI.had 20 _ rfl (F33.at 20 rfl), hI.had 31 _ rfl (F33.at 31 rfl), hI.had 32 _ rfl (F33.at 32 rfl), hI.had 33 _ rfl (F33.at 33 rfl), hI.had 34 _ rfl (F33.at 34 rfl), hI.had 35 _ rfl (F33.at 35 rfl), hI.had 36 _ rfl (F33.at 36 rfl), hI.had 37 _ rfl (F33.at 37 rfl), hI.had 38 _ rfl (F33.at 38 rfl), hI.had 39 _ rfl (F33.at 39 rfl), hI.had 40 _ rfl (F33.at 40 rfl), hI.had 41 _ rfl (F33.at 41 rfl), hI.had 42 _ rfl (F33.at 42 rfl), hI.had 43 _ rfl (F33.at 43 rfl), hI.had 44 _ rfl (F33.at 44 rfl), hI.had 45 _ rfl (F33.at 45 rfl), hI.had 46 _ rfl (F33.at 46 rfl), trivial⟩
  clear F33 M13 M14
  refine nx ?_
  refine wsl ?_
  refine mvS F34 rfl rfl rfl rfl rfl fun a35 F35 => ?_
  refine sr (v := (.bool true)) F35 (run_eqi rfl (F35.ev 61 rfl) rfl (beq_self_eq_true _)) rfl rfl rfl fun a36 F36 => ?_
  refine mvS F36 rfl rfl rfl rfl rfl fun a37 F37 => ?_
  refine sq (v := (.agg #[vz10_])) F37 (wantedG F37 rfl rfl rfl rfl rfl) (run_ldB rfl (F37.ev 9 rfl) (M15.at 1 rfl) Tryd.underlying30 rfl szKy rfl) rfl (by decide) fun a38 F38 => ?_
  refine sq (v := (.agg #[vz8_])) F38 (wantedG F38 rfl rfl rfl rfl rfl) (run_ldB rfl (F38.ev 6 rfl) (M15.at 3 rfl) Tryd.underlying30 rfl szKy rfl) rfl (by decide) fun a39 F39 => ?_
  refine sqC (v := (.bool true)) F39 M15 (wantedG F39 rfl rfl rfl rfl rfl) (run_call rfl Tryd.func16 (by kernel_rfl) rfl (mapE2 (F39.ev 64 rfl) (F39.ev 65 rfl))) rfl (by decide) (samek_any [ky1, ky2] vz10_ vz8_ w9 (Sl.own hO57) (Sl.own hO56) ex32 (by first | omega | simp)) fun a40 w10 hb10 F40 M16 => ?_
  have hO59 := hO53.grow hb10
  have hO60 := hO54.grow hb10
  have hO61 := hO55.grow hb10
  have hO62 := hO56.grow hb10
  have hO63 := hO57.grow hb10
  have hO64 := hO58.grow hb10
  refine sr (v := (.bool true)) F40 (run_pick rfl (F40.ev 63 rfl) (F40.ev 66 rfl) rfl) rfl rfl rfl fun a41 F41 => ?_
  refine mvS F41 rfl rfl rfl rfl rfl fun a42 F42 => ?_
  refine sq (v := (.pointer (some ⟨g6, 0, none⟩))) F42 (wantedG F42 rfl rfl rfl rfl rfl) (run_fldA (m := 1) (s := 0) rfl (F42.ev 6 rfl) Tryd.underlying30 rfl rfl (by kernel_rfl) (by decide)) rfl (by decide) fun a43 F43 => ?_
  refine sq (v := vz8_) F43 (wantedG F43 rfl rfl rfl rfl rfl) (run_ldF rfl (F43.ev 69 rfl) (M16.at 3 rfl) rfl (by kernel_rfl)) rfl (by decide) fun a44 F44 => ?_
  refine sq (v := (.int .i64 ([ky1, ky2].length : Int))) F44 (wantedG F44 rfl rfl rfl rfl rfl) (run_lenS rfl (F44.ev 70 rfl) (Sl.own hO62) rfl Tryd.underlying28) rfl (by decide) fun a45 F45 => ?_
  refine sq (v := (.bool true)) F45 (wantedG F45 rfl rfl rfl rfl rfl) (run_eqi rfl (F45.ev 71 rfl) rfl rfl) rfl (by decide) fun a46 F46 => ?_
  refine sr (v := (.bool true)) F46 (run_pick rfl (F46.ev 68 rfl) (F46.ev 72 rfl) rfl) rfl rfl rfl fun a47 F47 => ?_
  refine mvS F47 rfl rfl rfl rfl rfl fun a48 F48 => ?_
  refine sq (v := (.int .i64 21)) F48 (wantedG F48 rfl rfl rfl rfl rfl) (run_mv rfl (F48.ev 12 rfl)) rfl (by decide) fun a49 F49 => ?_
  refine sq (v := (.bool true)) F49 (wantedG F49 rfl rfl rfl rfl rfl) (run_eqi rfl (F49.ev 75 rfl) rfl (beq_self_eq_true _)) rfl (by decide) fun a50 F50 => ?_
  refine sr (v := (.bool true)) F50 (run_pick rfl (F50.ev 74 rfl) (F50.ev 76 rfl) rfl) rfl rfl rfl fun a51 F51 => ?_
  refine asS F51 rfl rfl rfl rfl rfl fun a52 F52 => ?_
  refine sn ?_
  clear F34 F35 F36 F37 F38 F39 F40 F41 F42 F43 F44 F45 F46 F47 F48 F49 F50 F51 M15
  refine wp_ret ?_
  exact ret1 F52 rfl rfl ⟨rfl, M16.below⟩
end Go.Proofs.YtconhhhggckcbaaDoor
