/- The walk of the reference's Rotate (layer 38). Printed by gen_key27.py. -/
import Derived.Test.YtconhhhggckcbaaDoorRngB
namespace Go.Proofs.YtconhhhggckcbaaDoor
open Go.RowKit

attribute [local irreducible] sealS keyedS nonceS openS
set_option maxRecDepth 100000 in
set_option maxHeartbeats 1000000 in
theorem rrot_any (E : List Ep) (K : List (List UInt8)) (k no : List UInt8) (v u : Value) (w : World) (hV : Sl w v 33 E.length (E.flatMap epF)) (hE32 : ∀ e ∈ E, e.c.length = 32) (hU : Sl w u 32 K.length (K.flatMap dgC)) (h32 : ∀ k ∈ K, k.length = 32) (hcap : capOk u) (hLk : k.length = 32) (hEl : E.length < 2 ^ 36) (hKl : K.length ≤ 65536) : Calls Tryd.prog 20 #[.agg #[v], .agg #[u], .agg (cells8 k), .string ⟨no.toArray⟩] w fun e w' => ∃ u, e = .returned u ∧ Kp.sat w.heap.size (.tup4 (.st (.row 76 33 (((rotS E K k no).1).length) (((rotS E K k no).1).flatMap epF))) (.st (.row 23 32 (((rotS E K k no).2.1).length) (((rotS E K k no).2.1).flatMap dgC))) (.row 54 33 (((rotS E K k no).2.2.1).length) (((rotS E K k no).2.2.1).flatMap shareC)) (.val (.int .i64 ((rotS E K k no).2.2.2)))) u w' ∧ Below w.heap.size w w' := by
  by_cases hck : checkS E K = 0
  · have hcd : ¬ (K = [] ∨ K.length ≠ E.length) := by
      intro h
      unfold checkS at hck
      rw [if_pos h] at hck
      cases hck
    have hK0 : 0 < K.length := List.length_pos_iff.2 fun h => hcd (.inl h)
    have hKE : K.length = E.length := Classical.not_not.1 fun h => hcd (.inr h)
    by_cases h100 : 100 ≤ K.length
    · have hr : rotE E K k no = 6 := by unfold rotE; rw [if_neg (fun h => h hck), if_pos h100]
      have hs : rotS E K k no = ([], [], [], 6) := by unfold rotS; rw [hr, if_neg (by omega)]
      refine walk_enter Tryd.func20 rfl rfl rfl fun a0 F0 => ?_
      have M0 := Mem.new w
      refine wsl ?_
      refine sqNew (cs := #[v]) (t := 27) F0 M0 (wantedS rfl) (run_box rfl (F0.ev 0 rfl)) rfl (by decide) fun g0 a1 w1 hgg0 hb1 F1 M1 => ?_
      refine sqNew (cs := #[u]) (t := 30) F1 M1 (wantedS rfl) (run_box rfl (F1.ev 1 rfl)) rfl (by decide) fun g1 a2 w2 hgg1 hb2 F2 M2 => ?_
      refine sqNew (cs := (cells8 k)) (t := 23) F2 M2 (wantedS rfl) (run_box rfl (F2.ev 2 rfl)) rfl (by decide) fun g2 a3 w3 hgg2 hb3 F3 M3 => ?_
      refine sqNew (cs := #[.slice none 0 0]) (t := 27) F3 M3 (wantedS rfl) (run_alloc rfl (by kernel_rfl)) rfl (by decide) fun g3 a4 w4 hgg3 hb4 F4 M4 => ?_
      refine sqNew (cs := #[.slice none 0 0]) (t := 30) F4 M4 (wantedS rfl) (run_alloc rfl (by kernel_rfl)) rfl (by decide) fun g4 a5 w5 hgg4 hb5 F5 M5 => ?_
      refine sr (v := (.slice none 0 0)) F5 (run_as rfl rfl) rfl rfl rfl fun a6 F6 => ?_
      refine sr (v := (.int .i64 0)) F6 (run_as rfl rfl) rfl rfl rfl fun a7 F7 => ?_
      refine sn ?_
      clear F0 F1 F2 F3 F4 F5 F6 M0 M1 M2 M3 M4
      refine wp_seq ?_
      refine wsl ?_
      refine sr F7 (run_ldB rfl (F7.ev 4 rfl) (M5.at 4 rfl) Tryd.underlying27 rfl szRg rfl) rfl rfl rfl fun a8 F8 => ?_
      refine sr F8 (run_ldB rfl (F8.ev 5 rfl) (M5.at 3 rfl) Tryd.underlying30 rfl szKy rfl) rfl rfl rfl fun a9 F9 => ?_
      refine sqC (v := (.int .i64 0)) F9 M5 (wantedS rfl) (run_call rfl Tryd.func22 (by kernel_rfl) rfl (mapE2 (F9.ev 17 rfl) (F9.ev 18 rfl))) rfl (by decide) ((by have h := rchk_any E K v u w5 (hV.below M5.below) hE32 (hU.below M5.below) h32 hcap (by omega) (by omega); rw [hck] at h; exact h)) fun a10 w6 hb6 F10 M6 => ?_
      refine asS F10 rfl rfl rfl rfl rfl fun a11 F11 => ?_
      refine sn ?_
      clear F7 F8 F9 F10 M5
      refine wsl ?_
      refine mvS F11 rfl rfl rfl rfl rfl fun a12 F12 => ?_
      refine sr (v := (.bool false)) F12 (run_nei rfl (F12.ev 20 rfl) rfl (bne_self_eq_false _)) rfl rfl rfl fun a13 F13 => ?_
      refine sn ?_
      clear F11 F12
      refine cfs (F13.ev 21 rfl) ?_
      refine wp_seq ?_
      refine wsl ?_
      refine sr F13 (run_fldA (m := 1) (s := 0) rfl (F13.ev 5 rfl) Tryd.underlying30 rfl rfl (by kernel_rfl) (by decide)) rfl rfl rfl fun a14 F14 => ?_
      refine sr (v := u) F14 (run_ldF rfl (F14.ev 25 rfl) (M6.at 3 rfl) rfl (by kernel_rfl)) rfl rfl rfl fun a15 F15 => ?_
      refine sr F15 (run_lenS rfl (F15.ev 26 rfl) (hU.below M6.below) rfl Tryd.underlying28) rfl rfl rfl fun a16 F16 => ?_
      refine sr (v := (.bool true)) F16 (run_geq rfl (F16.ev 27 rfl) rfl (decide_eq_true (by omega))) rfl rfl rfl fun a17 F17 => ?_
      refine sn ?_
      clear F13 F14 F15 F16
      refine wp_cond_true (F17.ev 28 rfl) ?_
      refine wsl ?_
      refine sr (v := (.agg #[.slice none 0 0])) F17 (run_blt (vs := #[]) (cs := #[.slice none 0 0]) rfl (by simp) (by kernel_rfl)) rfl rfl rfl fun a18 F18 => ?_
      refine sr (v := (.agg #[.slice none 0 0])) F18 (run_blt (vs := #[]) (cs := #[.slice none 0 0]) rfl (by simp) (by kernel_rfl)) rfl rfl rfl fun a19 F19 => ?_
      refine sqStore (i := 1) F19 M6 rfl rfl rfl (F19.ev 8 rfl) (F19.ev 29 rfl) rfl szRg rfl rfl (arr_one rfl) fun a20 w7 F20 M7 => ?_
      refine sqStore (i := 0) F20 M7 rfl rfl rfl (F20.ev 9 rfl) (F20.ev 30 rfl) rfl szKy rfl rfl (arr_one rfl) fun a21 w8 F21 M8 => ?_
      refine sr (v := (.slice none 0 0)) F21 (run_as rfl rfl) rfl rfl rfl fun a22 F22 => ?_
      refine sr (v := (.int .i64 6)) F22 (run_as rfl rfl) rfl rfl rfl fun a23 F23 => ?_
      refine sn ?_
      clear F17 F18 F19 F20 F21 F22 M6 M7
      refine wp_ret ?_
      refine nxRet ?_
      exact retV F23 (results_LLTT F23 rfl rfl rfl (loadVar_all (M8.at 1 rfl) Tryd.underlying27 rfl szRg rfl) (loadVar_all (M8.at 0 rfl) Tryd.underlying30 rfl szKy rfl) rfl rfl) ⟨_, rfl, by rw [hs]; exact ⟨_, _, _, _, rfl, ⟨_, rfl, ⟨rfl, .inl ⟨rfl, rfl⟩⟩⟩, ⟨_, rfl, ⟨rfl, .inl ⟨rfl, rfl⟩⟩⟩, ⟨rfl, .inl ⟨rfl, rfl⟩⟩, rfl⟩, M8.below⟩
    by_cases hin : k ∈ K
    · have hr : rotE E K k no = 8 := by unfold rotE; rw [if_neg (fun h => h hck), if_neg h100, if_pos hin]
      have hs : rotS E K k no = ([], [], [], 8) := by unfold rotS; rw [hr, if_neg (by omega)]
      refine walk_enter Tryd.func20 rfl rfl rfl fun a0 F0 => ?_
      have M0 := Mem.new w
      refine wsl ?_
      refine sqNew (cs := #[v]) (t := 27) F0 M0 (wantedS rfl) (run_box rfl (F0.ev 0 rfl)) rfl (by decide) fun g0 a1 w1 hgg0 hb1 F1 M1 => ?_
      refine sqNew (cs := #[u]) (t := 30) F1 M1 (wantedS rfl) (run_box rfl (F1.ev 1 rfl)) rfl (by decide) fun g1 a2 w2 hgg1 hb2 F2 M2 => ?_
      refine sqNew (cs := (cells8 k)) (t := 23) F2 M2 (wantedS rfl) (run_box rfl (F2.ev 2 rfl)) rfl (by decide) fun g2 a3 w3 hgg2 hb3 F3 M3 => ?_
      refine sqNew (cs := #[.slice none 0 0]) (t := 27) F3 M3 (wantedS rfl) (run_alloc rfl (by kernel_rfl)) rfl (by decide) fun g3 a4 w4 hgg3 hb4 F4 M4 => ?_
      refine sqNew (cs := #[.slice none 0 0]) (t := 30) F4 M4 (wantedS rfl) (run_alloc rfl (by kernel_rfl)) rfl (by decide) fun g4 a5 w5 hgg4 hb5 F5 M5 => ?_
      refine sr (v := (.slice none 0 0)) F5 (run_as rfl rfl) rfl rfl rfl fun a6 F6 => ?_
      refine sr (v := (.int .i64 0)) F6 (run_as rfl rfl) rfl rfl rfl fun a7 F7 => ?_
      refine sn ?_
      clear F0 F1 F2 F3 F4 F5 F6 M0 M1 M2 M3 M4
      refine wp_seq ?_
      refine wsl ?_
      refine sr F7 (run_ldB rfl (F7.ev 4 rfl) (M5.at 4 rfl) Tryd.underlying27 rfl szRg rfl) rfl rfl rfl fun a8 F8 => ?_
      refine sr F8 (run_ldB rfl (F8.ev 5 rfl) (M5.at 3 rfl) Tryd.underlying30 rfl szKy rfl) rfl rfl rfl fun a9 F9 => ?_
      refine sqC (v := (.int .i64 0)) F9 M5 (wantedS rfl) (run_call rfl Tryd.func22 (by kernel_rfl) rfl (mapE2 (F9.ev 17 rfl) (F9.ev 18 rfl))) rfl (by decide) ((by have h := rchk_any E K v u w5 (hV.below M5.below) hE32 (hU.below M5.below) h32 hcap (by omega) (by omega); rw [hck] at h; exact h)) fun a10 w6 hb6 F10 M6 => ?_
      refine asS F10 rfl rfl rfl rfl rfl fun a11 F11 => ?_
      refine sn ?_
      clear F7 F8 F9 F10 M5
      refine wsl ?_
      refine mvS F11 rfl rfl rfl rfl rfl fun a12 F12 => ?_
      refine sr (v := (.bool false)) F12 (run_nei rfl (F12.ev 20 rfl) rfl (bne_self_eq_false _)) rfl rfl rfl fun a13 F13 => ?_
      refine sn ?_
      clear F11 F12
      refine cfs (F13.ev 21 rfl) ?_
      refine wp_seq ?_
      refine wsl ?_
      refine sr F13 (run_fldA (m := 1) (s := 0) rfl (F13.ev 5 rfl) Tryd.underlying30 rfl rfl (by kernel_rfl) (by decide)) rfl rfl rfl fun a14 F14 => ?_
      refine sr (v := u) F14 (run_ldF rfl (F14.ev 25 rfl) (M6.at 3 rfl) rfl (by kernel_rfl)) rfl rfl rfl fun a15 F15 => ?_
      refine sr F15 (run_lenS rfl (F15.ev 26 rfl) (hU.below M6.below) rfl Tryd.underlying28) rfl rfl rfl fun a16 F16 => ?_
      refine sr (v := (.bool false)) F16 (run_geq rfl (F16.ev 27 rfl) rfl (decide_eq_false (by omega))) rfl rfl rfl fun a17 F17 => ?_
      refine sn ?_
      clear F13 F14 F15 F16
      refine cfs (F17.ev 28 rfl) ?_
      refine wp_seq ?_
      refine wsl ?_
      refine sr (v := (.int .i64 0)) F17 (run_as rfl rfl) rfl rfl rfl fun a18 F18 => ?_
      refine sn ?_
      clear F17
      refine wp_block ?_
      refine wkLoop (fun m a0 w2 => ∃ i : Nat, i ≤ K.length ∧ m = K.length - i ∧ k ∉ K.take i ∧ Fr a0 79 [(3, (.string ⟨no.toArray⟩)), (4, (.pointer (some ⟨g0, 0, none⟩))), (5, (.pointer (some ⟨g1, 0, none⟩))), (6, (.pointer (some ⟨g2, 0, none⟩))), (8, (.pointer (some ⟨g3, 0, none⟩))), (9, (.pointer (some ⟨g4, 0, none⟩))), (10, (.slice none 0 0)), (11, (.int .i64 0)), (13, .int .i64 (i : Int))] ∧ Mem w [(g4, isB 30 (#[.slice none 0 0])), (g3, isB 27 (#[.slice none 0 0])), (g2, isB 23 (cells8 k)), (g1, isB 30 (#[u])), (g0, isB 27 (#[v]))] w2) K.length ⟨0, Nat.zero_le _, rfl, by simp, F18.sub ⟨rfl, rfl, rfl, rfl, rfl, rfl, rfl, rfl, rfl, trivial⟩, M6⟩ ?_
      rintro m a0 w1 ⟨i, hi, rfl, hni, F0, M0⟩
      by_cases h1 : i < K.length
      · obtain ⟨y, hy⟩ : ∃ y, K[i]? = some y := ⟨K[i], List.getElem?_eq_getElem h1⟩
        have hLy := h32 y (List.mem_of_getElem? hy)
        by_cases hyk : y = k
        · skip
          refine wp_seq ?_
          refine wsl ?_
          refine mvS F0 rfl rfl rfl rfl rfl fun a1 F1 => ?_
          refine sr F1 (run_fldA (m := 1) (s := 0) rfl (F1.ev 5 rfl) Tryd.underlying30 rfl rfl (by kernel_rfl) (by decide)) rfl rfl rfl fun a2 F2 => ?_
          refine sr (v := u) F2 (run_ldF rfl (F2.ev 32 rfl) (M0.at 3 rfl) rfl (by kernel_rfl)) rfl rfl rfl fun a3 F3 => ?_
          refine sr F3 (run_lenS rfl (F3.ev 33 rfl) (hU.below M0.below) rfl Tryd.underlying28) rfl rfl rfl fun a4 F4 => ?_
          refine sr (v := (.bool true)) F4 (run_lss rfl (F4.ev 31 rfl) (F4.ev 34 rfl) (decide_eq_true (by omega))) rfl rfl rfl fun a5 F5 => ?_
          refine sn ?_
          clear F0 F1 F2 F3 F4
          refine cts (F5.ev 35 rfl) ?_
          refine wp_seq ?_
          refine wp_block ?_
          refine wp_seq ?_
          obtain ⟨KL, hKL⟩ : ∃ KL, KL = [kval (.pointer (some ⟨g1, 0, none⟩)), kval u, kval (.int .i64 (i : Int)), kval (slPtr u (i * 32)), kval (.agg (cells8 y)), kval (.agg (cells8 k)), kval (.bool true)] := ⟨_, rfl⟩
          have K0 := getK hKL 0
          have K1 := getK hKL 1
          have K2 := getK hKL 2
          have K3 := getK hKL 3
          have K4 := getK hKL 4
          have K5 := getK hKL 5
          have K6 := getK hKL 6
          clear hKL
          refine wp_region_kd 79 (by kernel_rfl) (by kernel_rfl) (by kernel_rfl) F5.size KL ?_ ?_
          · refine ⟨?_, ?_, ?_, ?_, ?_, ?_, ?_, trivial⟩
            · exact asksY rfl fun a W hS hh hd => giv_run (run_fldA (m := 1) (s := 0) rfl (eval_tmp (hh 5 _ rfl (F5.at 5 rfl))) Tryd.underlying30 rfl rfl (by kernel_rfl) (by decide)) K0
            · exact asksY rfl fun a W hS hh hd => giv_run (run_ldF rfl (eval_tmp (hd.vl 0 38 (by kernel_rfl) K0)) ((M0.grow hS).at 3 rfl) rfl (by kernel_rfl)) K1
            · exact asksY rfl fun a W hS hh hd => giv_run (run_mv rfl (eval_tmp (hh 13 _ rfl (F5.at 13 rfl)))) K2
            · exact asksY rfl fun a W hS hh hd => giv_run (run_atP (i := i) rfl (eval_tmp (hd.vl 1 39 (by kernel_rfl) K1)) (eval_tmp (hd.vl 2 40 (by kernel_rfl) K2)) rfl (hU.below (M0.grow hS).below) (by omega) elKey.un (by kernel_rfl)) K3
            · exact asksY rfl fun a W hS hh hd => giv_run (ldKey hLy (run_ldPS (ys := dgC y) rfl (eval_tmp (hd.vl 3 41 (by kernel_rfl) K3)) (hU.below (M0.grow hS).below) (by omega) (fun j u hj => flat_at dgC_len hy j hj) (by kernel_rfl) (by kernel_rfl))) K4
            · exact asksY rfl fun a W hS hh hd => giv_run (run_ldB rfl (eval_tmp (hh 6 _ rfl (F5.at 6 rfl))) ((M0.grow hS).at 2 rfl) Tryd.underlying23 rfl sz32k (szOf hLk)) K5
            · exact asksY rfl fun a W hS hh hd => giv_run (run_eqKB hLy hLk (beq_iff_eq.2 hyk) rfl (eval_tmp (hd.vl 4 42 (by kernel_rfl) K4)) (eval_tmp (hd.vl 5 43 (by kernel_rfl) K5))) K6
          · intro a6 w2 hb2 hK
            have e0 := hK.vl 0 38 (by kernel_rfl) K0
            have e1 := hK.vl 1 39 (by kernel_rfl) K1
            have e2 := hK.vl 2 40 (by kernel_rfl) K2
            have e3 := hK.vl 3 41 (by kernel_rfl) K3
            have e4 := hK.vl 4 42 (by kernel_rfl) K4
            have e5 := hK.vl 5 43 (by kernel_rfl) K5
            have e6 := hK.vl 6 44 (by kernel_rfl) K6
            have F6 : Fr a6 79 [(3, (.string ⟨no.toArray⟩)), (4, (.pointer (some ⟨g0, 0, none⟩))), (5, (.pointer (some ⟨g1, 0, none⟩))), (6, (.pointer (some ⟨g2, 0, none⟩))), (8, (.pointer (some ⟨g3, 0, none⟩))), (9, (.pointer (some ⟨g4, 0, none⟩))), (10, (.slice none 0 0)), (11, (.int .i64 0)), (13, (.int .i64 (i : Int))), (31, (.int .i64 (i : Int))), (32, (.pointer (some ⟨g1, 0, none⟩))), (33, u), (34, (.int .i64 (K.length : Int))), (35, (.bool true)), (44, (.bool true))] := (hK.fr F5 [_, _, _, _, _, _, _] ⟨e0, e1, e2, e3, e4, e5, e6, trivial⟩).sub ⟨rfl, rfl, rfl, rfl, rfl, rfl, rfl, rfl, rfl, rfl, rfl, rfl, rfl, rfl, rfl, trivial⟩
            have M1 := M0.grow hb2
            clear hK K0 e0 K1 e1 K2 e2 K3 e3 K4 e4 K5 e5 K6 e6
            clear F5 M0
            refine nx ?_
            refine wp_cond_true (F6.ev 44 rfl) ?_
            refine wsl ?_
            refine sr (v := (.agg #[.slice none 0 0])) F6 (run_blt (vs := #[]) (cs := #[.slice none 0 0]) rfl (by simp) (by kernel_rfl)) rfl rfl rfl fun a7 F7 => ?_
            refine sr (v := (.agg #[.slice none 0 0])) F7 (run_blt (vs := #[]) (cs := #[.slice none 0 0]) rfl (by simp) (by kernel_rfl)) rfl rfl rfl fun a8 F8 => ?_
            refine sqStore (i := 1) F8 M1 rfl rfl rfl (F8.ev 8 rfl) (F8.ev 45 rfl) rfl szRg rfl rfl (arr_one rfl) fun a9 w3 F9 M2 => ?_
            refine sqStore (i := 0) F9 M2 rfl rfl rfl (F9.ev 9 rfl) (F9.ev 46 rfl) rfl szKy rfl rfl (arr_one rfl) fun a10 w4 F10 M3 => ?_
            refine sr (v := (.slice none 0 0)) F10 (run_as rfl rfl) rfl rfl rfl fun a11 F11 => ?_
            refine sr (v := (.int .i64 8)) F11 (run_as rfl rfl) rfl rfl rfl fun a12 F12 => ?_
            refine sn ?_
            clear F6 F7 F8 F9 F10 F11 M1 M2
            refine wp_ret ?_
            refine bkRet ?_
            refine nxRet ?_
            refine nxRet ?_
            refine bkRet ?_
            refine nxRet ?_
            exact retV F12 (results_LLTT F12 rfl rfl rfl (loadVar_all (M3.at 1 rfl) Tryd.underlying27 rfl szRg rfl) (loadVar_all (M3.at 0 rfl) Tryd.underlying30 rfl szKy rfl) rfl rfl) ⟨_, rfl, by rw [hs]; exact ⟨_, _, _, _, rfl, ⟨_, rfl, ⟨rfl, .inl ⟨rfl, rfl⟩⟩⟩, ⟨_, rfl, ⟨rfl, .inl ⟨rfl, rfl⟩⟩⟩, ⟨rfl, .inl ⟨rfl, rfl⟩⟩, rfl⟩, M3.below⟩
        · skip
          refine wp_seq ?_
          refine wsl ?_
          refine mvS F0 rfl rfl rfl rfl rfl fun a1 F1 => ?_
          refine sr F1 (run_fldA (m := 1) (s := 0) rfl (F1.ev 5 rfl) Tryd.underlying30 rfl rfl (by kernel_rfl) (by decide)) rfl rfl rfl fun a2 F2 => ?_
          refine sr (v := u) F2 (run_ldF rfl (F2.ev 32 rfl) (M0.at 3 rfl) rfl (by kernel_rfl)) rfl rfl rfl fun a3 F3 => ?_
          refine sr F3 (run_lenS rfl (F3.ev 33 rfl) (hU.below M0.below) rfl Tryd.underlying28) rfl rfl rfl fun a4 F4 => ?_
          refine sr (v := (.bool true)) F4 (run_lss rfl (F4.ev 31 rfl) (F4.ev 34 rfl) (decide_eq_true (by omega))) rfl rfl rfl fun a5 F5 => ?_
          refine sn ?_
          clear F0 F1 F2 F3 F4
          refine cts (F5.ev 35 rfl) ?_
          refine wp_seq ?_
          refine wp_block ?_
          refine wp_seq ?_
          obtain ⟨KL, hKL⟩ : ∃ KL, KL = [kval (.pointer (some ⟨g1, 0, none⟩)), kval u, kval (.int .i64 (i : Int)), kval (slPtr u (i * 32)), kval (.agg (cells8 y)), kval (.agg (cells8 k)), kval (.bool false)] := ⟨_, rfl⟩
          have K0 := getK hKL 0
          have K1 := getK hKL 1
          have K2 := getK hKL 2
          have K3 := getK hKL 3
          have K4 := getK hKL 4
          have K5 := getK hKL 5
          have K6 := getK hKL 6
          clear hKL
          refine wp_region_kd 79 (by kernel_rfl) (by kernel_rfl) (by kernel_rfl) F5.size KL ?_ ?_
          · refine ⟨?_, ?_, ?_, ?_, ?_, ?_, ?_, trivial⟩
            · exact asksY rfl fun a W hS hh hd => giv_run (run_fldA (m := 1) (s := 0) rfl (eval_tmp (hh 5 _ rfl (F5.at 5 rfl))) Tryd.underlying30 rfl rfl (by kernel_rfl) (by decide)) K0
            · exact asksY rfl fun a W hS hh hd => giv_run (run_ldF rfl (eval_tmp (hd.vl 0 38 (by kernel_rfl) K0)) ((M0.grow hS).at 3 rfl) rfl (by kernel_rfl)) K1
            · exact asksY rfl fun a W hS hh hd => giv_run (run_mv rfl (eval_tmp (hh 13 _ rfl (F5.at 13 rfl)))) K2
            · exact asksY rfl fun a W hS hh hd => giv_run (run_atP (i := i) rfl (eval_tmp (hd.vl 1 39 (by kernel_rfl) K1)) (eval_tmp (hd.vl 2 40 (by kernel_rfl) K2)) rfl (hU.below (M0.grow hS).below) (by omega) elKey.un (by kernel_rfl)) K3
            · exact asksY rfl fun a W hS hh hd => giv_run (ldKey hLy (run_ldPS (ys := dgC y) rfl (eval_tmp (hd.vl 3 41 (by kernel_rfl) K3)) (hU.below (M0.grow hS).below) (by omega) (fun j u hj => flat_at dgC_len hy j hj) (by kernel_rfl) (by kernel_rfl))) K4
            · exact asksY rfl fun a W hS hh hd => giv_run (run_ldB rfl (eval_tmp (hh 6 _ rfl (F5.at 6 rfl))) ((M0.grow hS).at 2 rfl) Tryd.underlying23 rfl sz32k (szOf hLk)) K5
            · exact asksY rfl fun a W hS hh hd => giv_run (run_eqKB hLy hLk (beq_eq_false_iff_ne.2 hyk) rfl (eval_tmp (hd.vl 4 42 (by kernel_rfl) K4)) (eval_tmp (hd.vl 5 43 (by kernel_rfl) K5))) K6
          · intro a6 w2 hb2 hK
            have e0 := hK.vl 0 38 (by kernel_rfl) K0
            have e1 := hK.vl 1 39 (by kernel_rfl) K1
            have e2 := hK.vl 2 40 (by kernel_rfl) K2
            have e3 := hK.vl 3 41 (by kernel_rfl) K3
            have e4 := hK.vl 4 42 (by kernel_rfl) K4
            have e5 := hK.vl 5 43 (by kernel_rfl) K5
            have e6 := hK.vl 6 44 (by kernel_rfl) K6
            have F6 : Fr a6 79 [(3, (.string ⟨no.toArray⟩)), (4, (.pointer (some ⟨g0, 0, none⟩))), (5, (.pointer (some ⟨g1, 0, none⟩))), (6, (.pointer (some ⟨g2, 0, none⟩))), (8, (.pointer (some ⟨g3, 0, none⟩))), (9, (.pointer (some ⟨g4, 0, none⟩))), (10, (.slice none 0 0)), (11, (.int .i64 0)), (13, (.int .i64 (i : Int))), (31, (.int .i64 (i : Int))), (32, (.pointer (some ⟨g1, 0, none⟩))), (33, u), (34, (.int .i64 (K.length : Int))), (35, (.bool true)), (44, (.bool false))] := (hK.fr F5 [_, _, _, _, _, _, _] ⟨e0, e1, e2, e3, e4, e5, e6, trivial⟩).sub ⟨rfl, rfl, rfl, rfl, rfl, rfl, rfl, rfl, rfl, rfl, rfl, rfl, rfl, rfl, rfl, trivial⟩
            have M1 := M0.grow hb2
            clear hK K0 e0 K1 e1 K2 e2 K3 e3 K4 e4 K5 e5 K6 e6
            clear F5 M0
            refine nx ?_
            refine wp_cond_false (F6.ev 44 rfl) ?_
            refine wp_skip ?_
            refine bkEnd ?_
            refine nx ?_
            refine wp_region_lit ?_
            refine mvS F6 rfl rfl rfl rfl rfl fun a7 F7 => ?_
            refine sr F7 (run_add (r := ((i + 1 : Nat) : Int)) rfl (F7.ev 36 rfl) rfl (by rw [IntKind.wrap_i64]; omega)) rfl rfl rfl fun a8 F8 => ?_
            refine asS F8 rfl rfl rfl rfl rfl fun a9 F9 => ?_
            refine sn ?_
            clear F6 F7 F8
            have hky : k ≠ y := fun e => hyk e.symm
            exact ⟨_, by omega, i + 1, by omega, rfl, by rw [List.take_add_one, hy]; simp [hni, hky], F9.sub ⟨rfl, rfl, rfl, rfl, rfl, rfl, rfl, rfl, rfl, trivial⟩, M1⟩
      · exact absurd hin (by rw [List.take_of_length_le (by omega)] at hni; exact hni)
    by_cases hno : no.length = 64
    · have hr : rotE E K k no = 0 := by unfold rotE; rw [if_neg (fun h => h hck), if_neg h100, if_neg hin, if_pos hno]
      obtain ⟨x, hx⟩ : ∃ x, K[K.length - 1]? = some x := ⟨K[K.length - 1]'(by omega), List.getElem?_eq_getElem (by omega)⟩
      have hLx := h32 x (List.mem_of_getElem? hx)
      have hgx : K.getD (K.length - 1) [] = x := by rw [List.getD_eq_getElem?_getD, hx]; rfl
      have hs : rotS E K k no = (E ++ [epS k x], K ++ [k], shS k no, 0) := by unfold rotS; rw [if_pos hr, hgx]
      refine walk_enter Tryd.func20 rfl rfl rfl fun a0 F0 => ?_
      have M0 := Mem.new w
      refine wsl ?_
      refine sqNew (cs := #[v]) (t := 27) F0 M0 (wantedS rfl) (run_box rfl (F0.ev 0 rfl)) rfl (by decide) fun g0 a1 w1 hgg0 hb1 F1 M1 => ?_
      refine sqNew (cs := #[u]) (t := 30) F1 M1 (wantedS rfl) (run_box rfl (F1.ev 1 rfl)) rfl (by decide) fun g1 a2 w2 hgg1 hb2 F2 M2 => ?_
      refine sqNew (cs := (cells8 k)) (t := 23) F2 M2 (wantedS rfl) (run_box rfl (F2.ev 2 rfl)) rfl (by decide) fun g2 a3 w3 hgg2 hb3 F3 M3 => ?_
      refine sqNew (cs := #[.slice none 0 0]) (t := 27) F3 M3 (wantedS rfl) (run_alloc rfl (by kernel_rfl)) rfl (by decide) fun g3 a4 w4 hgg3 hb4 F4 M4 => ?_
      refine sqNew (cs := #[.slice none 0 0]) (t := 30) F4 M4 (wantedS rfl) (run_alloc rfl (by kernel_rfl)) rfl (by decide) fun g4 a5 w5 hgg4 hb5 F5 M5 => ?_
      refine sr (v := (.slice none 0 0)) F5 (run_as rfl rfl) rfl rfl rfl fun a6 F6 => ?_
      refine sr (v := (.int .i64 0)) F6 (run_as rfl rfl) rfl rfl rfl fun a7 F7 => ?_
      refine sn ?_
      clear F0 F1 F2 F3 F4 F5 F6 M0 M1 M2 M3 M4
      refine wp_seq ?_
      refine wsl ?_
      refine sr F7 (run_ldB rfl (F7.ev 4 rfl) (M5.at 4 rfl) Tryd.underlying27 rfl szRg rfl) rfl rfl rfl fun a8 F8 => ?_
      refine sr F8 (run_ldB rfl (F8.ev 5 rfl) (M5.at 3 rfl) Tryd.underlying30 rfl szKy rfl) rfl rfl rfl fun a9 F9 => ?_
      refine sqC (v := (.int .i64 0)) F9 M5 (wantedS rfl) (run_call rfl Tryd.func22 (by kernel_rfl) rfl (mapE2 (F9.ev 17 rfl) (F9.ev 18 rfl))) rfl (by decide) ((by have h := rchk_any E K v u w5 (hV.below M5.below) hE32 (hU.below M5.below) h32 hcap (by omega) (by omega); rw [hck] at h; exact h)) fun a10 w6 hb6 F10 M6 => ?_
      refine asS F10 rfl rfl rfl rfl rfl fun a11 F11 => ?_
      refine sn ?_
      clear F7 F8 F9 F10 M5
      refine wsl ?_
      refine mvS F11 rfl rfl rfl rfl rfl fun a12 F12 => ?_
      refine sr (v := (.bool false)) F12 (run_nei rfl (F12.ev 20 rfl) rfl (bne_self_eq_false _)) rfl rfl rfl fun a13 F13 => ?_
      refine sn ?_
      clear F11 F12
      refine cfs (F13.ev 21 rfl) ?_
      refine wp_seq ?_
      refine wsl ?_
      refine sr F13 (run_fldA (m := 1) (s := 0) rfl (F13.ev 5 rfl) Tryd.underlying30 rfl rfl (by kernel_rfl) (by decide)) rfl rfl rfl fun a14 F14 => ?_
      refine sr (v := u) F14 (run_ldF rfl (F14.ev 25 rfl) (M6.at 3 rfl) rfl (by kernel_rfl)) rfl rfl rfl fun a15 F15 => ?_
      refine sr F15 (run_lenS rfl (F15.ev 26 rfl) (hU.below M6.below) rfl Tryd.underlying28) rfl rfl rfl fun a16 F16 => ?_
      refine sr (v := (.bool false)) F16 (run_geq rfl (F16.ev 27 rfl) rfl (decide_eq_false (by omega))) rfl rfl rfl fun a17 F17 => ?_
      refine sn ?_
      clear F13 F14 F15 F16
      refine cfs (F17.ev 28 rfl) ?_
      refine wp_seq ?_
      refine wsl ?_
      refine sr (v := (.int .i64 0)) F17 (run_as rfl rfl) rfl rfl rfl fun a18 F18 => ?_
      refine sn ?_
      clear F17
      refine wp_block ?_
      refine wkLoop (fun m a0 w2 => ∃ i : Nat, i ≤ K.length ∧ m = K.length - i ∧ k ∉ K.take i ∧ Fr a0 79 [(3, (.string ⟨no.toArray⟩)), (4, (.pointer (some ⟨g0, 0, none⟩))), (5, (.pointer (some ⟨g1, 0, none⟩))), (6, (.pointer (some ⟨g2, 0, none⟩))), (8, (.pointer (some ⟨g3, 0, none⟩))), (9, (.pointer (some ⟨g4, 0, none⟩))), (10, (.slice none 0 0)), (11, (.int .i64 0)), (13, .int .i64 (i : Int))] ∧ Mem w [(g4, isB 30 (#[.slice none 0 0])), (g3, isB 27 (#[.slice none 0 0])), (g2, isB 23 (cells8 k)), (g1, isB 30 (#[u])), (g0, isB 27 (#[v]))] w2) K.length ⟨0, Nat.zero_le _, rfl, by simp, F18.sub ⟨rfl, rfl, rfl, rfl, rfl, rfl, rfl, rfl, rfl, trivial⟩, M6⟩ ?_
      rintro m a0 w1 ⟨i, hi, rfl, hni, F0, M0⟩
      by_cases h1 : i < K.length
      · obtain ⟨y, hy⟩ : ∃ y, K[i]? = some y := ⟨K[i], List.getElem?_eq_getElem h1⟩
        have hLy := h32 y (List.mem_of_getElem? hy)
        have hyk : y ≠ k := fun e => hin (e ▸ List.mem_of_getElem? hy)
        refine wp_seq ?_
        refine wsl ?_
        refine mvS F0 rfl rfl rfl rfl rfl fun a1 F1 => ?_
        refine sr F1 (run_fldA (m := 1) (s := 0) rfl (F1.ev 5 rfl) Tryd.underlying30 rfl rfl (by kernel_rfl) (by decide)) rfl rfl rfl fun a2 F2 => ?_
        refine sr (v := u) F2 (run_ldF rfl (F2.ev 32 rfl) (M0.at 3 rfl) rfl (by kernel_rfl)) rfl rfl rfl fun a3 F3 => ?_
        refine sr F3 (run_lenS rfl (F3.ev 33 rfl) (hU.below M0.below) rfl Tryd.underlying28) rfl rfl rfl fun a4 F4 => ?_
        refine sr (v := (.bool true)) F4 (run_lss rfl (F4.ev 31 rfl) (F4.ev 34 rfl) (decide_eq_true (by omega))) rfl rfl rfl fun a5 F5 => ?_
        refine sn ?_
        clear F0 F1 F2 F3 F4
        refine cts (F5.ev 35 rfl) ?_
        refine wp_seq ?_
        refine wp_block ?_
        refine wp_seq ?_
        obtain ⟨KL, hKL⟩ : ∃ KL, KL = [kval (.pointer (some ⟨g1, 0, none⟩)), kval u, kval (.int .i64 (i : Int)), kval (slPtr u (i * 32)), kval (.agg (cells8 y)), kval (.agg (cells8 k)), kval (.bool false)] := ⟨_, rfl⟩
        have K0 := getK hKL 0
        have K1 := getK hKL 1
        have K2 := getK hKL 2
        have K3 := getK hKL 3
        have K4 := getK hKL 4
        have K5 := getK hKL 5
        have K6 := getK hKL 6
        clear hKL
        refine wp_region_kd 79 (by kernel_rfl) (by kernel_rfl) (by kernel_rfl) F5.size KL ?_ ?_
        · refine ⟨?_, ?_, ?_, ?_, ?_, ?_, ?_, trivial⟩
          · exact asksY rfl fun a W hS hh hd => giv_run (run_fldA (m := 1) (s := 0) rfl (eval_tmp (hh 5 _ rfl (F5.at 5 rfl))) Tryd.underlying30 rfl rfl (by kernel_rfl) (by decide)) K0
          · exact asksY rfl fun a W hS hh hd => giv_run (run_ldF rfl (eval_tmp (hd.vl 0 38 (by kernel_rfl) K0)) ((M0.grow hS).at 3 rfl) rfl (by kernel_rfl)) K1
          · exact asksY rfl fun a W hS hh hd => giv_run (run_mv rfl (eval_tmp (hh 13 _ rfl (F5.at 13 rfl)))) K2
          · exact asksY rfl fun a W hS hh hd => giv_run (run_atP (i := i) rfl (eval_tmp (hd.vl 1 39 (by kernel_rfl) K1)) (eval_tmp (hd.vl 2 40 (by kernel_rfl) K2)) rfl (hU.below (M0.grow hS).below) (by omega) elKey.un (by kernel_rfl)) K3
          · exact asksY rfl fun a W hS hh hd => giv_run (ldKey hLy (run_ldPS (ys := dgC y) rfl (eval_tmp (hd.vl 3 41 (by kernel_rfl) K3)) (hU.below (M0.grow hS).below) (by omega) (fun j u hj => flat_at dgC_len hy j hj) (by kernel_rfl) (by kernel_rfl))) K4
          · exact asksY rfl fun a W hS hh hd => giv_run (run_ldB rfl (eval_tmp (hh 6 _ rfl (F5.at 6 rfl))) ((M0.grow hS).at 2 rfl) Tryd.underlying23 rfl sz32k (szOf hLk)) K5
          · exact asksY rfl fun a W hS hh hd => giv_run (run_eqKB hLy hLk (beq_eq_false_iff_ne.2 hyk) rfl (eval_tmp (hd.vl 4 42 (by kernel_rfl) K4)) (eval_tmp (hd.vl 5 43 (by kernel_rfl) K5))) K6
        · intro a6 w2 hb2 hK
          have e0 := hK.vl 0 38 (by kernel_rfl) K0
          have e1 := hK.vl 1 39 (by kernel_rfl) K1
          have e2 := hK.vl 2 40 (by kernel_rfl) K2
          have e3 := hK.vl 3 41 (by kernel_rfl) K3
          have e4 := hK.vl 4 42 (by kernel_rfl) K4
          have e5 := hK.vl 5 43 (by kernel_rfl) K5
          have e6 := hK.vl 6 44 (by kernel_rfl) K6
          have F6 : Fr a6 79 [(3, (.string ⟨no.toArray⟩)), (4, (.pointer (some ⟨g0, 0, none⟩))), (5, (.pointer (some ⟨g1, 0, none⟩))), (6, (.pointer (some ⟨g2, 0, none⟩))), (8, (.pointer (some ⟨g3, 0, none⟩))), (9, (.pointer (some ⟨g4, 0, none⟩))), (10, (.slice none 0 0)), (11, (.int .i64 0)), (13, (.int .i64 (i : Int))), (31, (.int .i64 (i : Int))), (32, (.pointer (some ⟨g1, 0, none⟩))), (33, u), (34, (.int .i64 (K.length : Int))), (35, (.bool true)), (44, (.bool false))] := (hK.fr F5 [_, _, _, _, _, _, _] ⟨e0, e1, e2, e3, e4, e5, e6, trivial⟩).sub ⟨rfl, rfl, rfl, rfl, rfl, rfl, rfl, rfl, rfl, rfl, rfl, rfl, rfl, rfl, rfl, trivial⟩
          have M1 := M0.grow hb2
          clear hK K0 e0 K1 e1 K2 e2 K3 e3 K4 e4 K5 e5 K6 e6
          clear F5 M0
          refine nx ?_
          refine wp_cond_false (F6.ev 44 rfl) ?_
          refine wp_skip ?_
          refine bkEnd ?_
          refine nx ?_
          refine wp_region_lit ?_
          refine mvS F6 rfl rfl rfl rfl rfl fun a7 F7 => ?_
          refine sr F7 (run_add (r := ((i + 1 : Nat) : Int)) rfl (F7.ev 36 rfl) rfl (by rw [IntKind.wrap_i64]; omega)) rfl rfl rfl fun a8 F8 => ?_
          refine asS F8 rfl rfl rfl rfl rfl fun a9 F9 => ?_
          refine sn ?_
          clear F6 F7 F8
          have hky : k ≠ y := fun e => hyk e.symm
          exact ⟨_, by omega, i + 1, by omega, rfl, by rw [List.take_add_one, hy]; simp [hni, hky], F9.sub ⟨rfl, rfl, rfl, rfl, rfl, rfl, rfl, rfl, rfl, trivial⟩, M1⟩
      · skip
        refine wp_seq ?_
        refine wsl ?_
        refine mvS F0 rfl rfl rfl rfl rfl fun a1 F1 => ?_
        refine sr F1 (run_fldA (m := 1) (s := 0) rfl (F1.ev 5 rfl) Tryd.underlying30 rfl rfl (by kernel_rfl) (by decide)) rfl rfl rfl fun a2 F2 => ?_
        refine sr (v := u) F2 (run_ldF rfl (F2.ev 32 rfl) (M0.at 3 rfl) rfl (by kernel_rfl)) rfl rfl rfl fun a3 F3 => ?_
        refine sr F3 (run_lenS rfl (F3.ev 33 rfl) (hU.below M0.below) rfl Tryd.underlying28) rfl rfl rfl fun a4 F4 => ?_
        refine sr (v := (.bool false)) F4 (run_lss rfl (F4.ev 31 rfl) (F4.ev 34 rfl) (decide_eq_false (by omega))) rfl rfl rfl fun a5 F5 => ?_
        refine sn ?_
        clear F0 F1 F2 F3 F4
        refine wp_cond_false (F5.ev 35 rfl) ?_
        refine wp_exit ?_
        refine nxExit ?_
        refine nxExit ?_
        refine bkHere ?_
        refine nx ?_
        refine wsl ?_
        refine sr F5 (run_ldB rfl (F5.ev 6 rfl) (M0.at 2 rfl) Tryd.underlying23 rfl sz32k (szOf hLk)) rfl rfl rfl fun a6 F6 => ?_
        refine mvS F6 rfl rfl rfl rfl rfl fun a7 F7 => ?_
        refine sqT (T := fun u wx => Kp.sat w1.heap.size (.tup2 (.row 54 33 5 ((shS k no).flatMap shareC)) (.val (.int .i64 0))) u wx ∧ Below w1.heap.size w1 wx) F7 (wantedS rfl) (run_call rfl Tryd.func40 (by kernel_rfl) rfl (mapE3 (F7.ev 48 rfl) rfl (F7.ev 49 rfl))) rfl (by decide) ((rsplit_any k no w1 hLk hno).mono fun e w2 ⟨⟨v, h1, h2⟩, h3⟩ => ⟨_, h1, ⟨v, _, rfl, h2, rfl⟩, h3⟩) fun u5 a8 w2 hT2 F8 => ?_
        obtain ⟨⟨vz6a, _, rfl, hz6a, rfl⟩, hb2⟩ := hT2
        have hO1 := OwnR.ofCall M0 (show World.ownsRow w2 _ 54 33 vz6a 5 ((shS k no).flatMap shareC) from hz6a)
        have M1 := M0.grow hb2
        refine mvS F8 rfl rfl rfl rfl rfl fun a9 F9 => ?_
        refine sr (v := vz6a) F9 (run_ext rfl (F9.ev 47 rfl) rfl) rfl rfl rfl fun a10 F10 => ?_
        refine sr (v := (.int .i64 0)) F10 (run_ext rfl (F10.ev 47 rfl) rfl) rfl rfl rfl fun a11 F11 => ?_
        refine asS F11 rfl rfl rfl rfl rfl fun a12 F12 => ?_
        refine asS F12 rfl rfl rfl rfl rfl fun a13 F13 => ?_
        refine sn ?_
        clear F5 F6 F7 F8 F9 F10 F11 F12 M0
        refine wp_seq ?_
        refine wsl ?_
        refine mvS F13 rfl rfl rfl rfl rfl fun a14 F14 => ?_
        refine sr (v := (.bool false)) F14 (run_nei rfl (F14.ev 53 rfl) rfl (bne_eq_false_iff_eq.2 (by omega))) rfl rfl rfl fun a15 F15 => ?_
        refine sn ?_
        clear F13 F14
        refine cfs (F15.ev 54 rfl) ?_
        refine wp_seq ?_
        refine wp_region_p 79 [.new 76 (#[]) 0, .val (.pointer (some ⟨g0, 0, none⟩)), .val v, .row 76 33 (0 + E.length) ([] ++ E.flatMap epF), .val (.pointer (some ⟨g1, 0, none⟩)), .val u, .val (.agg (cells8 k)), .val (.agg (epC (epS k x))), .new 76 (List.toArray ([epS k x].flatMap epF)) 1, .row 76 33 ((0 + E.length) + 1) (([] ++ E.flatMap epF) ++ ([epS k x].flatMap epF)), .st (.row 76 33 ((0 + E.length) + 1) (([] ++ E.flatMap epF) ++ ([epS k x].flatMap epF))), .any, .any] [some 3, none, none, some 9, none, none, none, none, some 9, none, none, none, none] [⟨11, 16, 12, 27, #[.slice none 0 0], .st (.row 76 33 ((0 + E.length) + 1) (([] ++ E.flatMap epF) ++ ([epS k x].flatMap epF)))⟩] [] [] (by kernel_rfl) (by kernel_rfl) F15.size ?_ ?_ ?_ ?_ (by kernel_rfl) ?_ fun a16 w3 gs hI => ?_
        · intro d hd
          simp only [List.mem_cons, List.not_mem_nil, or_false] at hd
          rcases hd with rfl <;> exact ⟨Nat.le_of_ble_eq_true (by kernel_rfl), _, rfl, rfl⟩
        · intro b hb
          cases hb
        · intro x y b c hx hy hne
          simp at hx
        · intro r hr
          cases hr
        · refine ⟨?_, ?_, ?_, ?_, ?_, ?_, ?_, ?_, ?_, ?_, ?_, ?_, ?_, trivial⟩
          · refine .val 58 rfl (by simp) (by simp) (by simp) fun a W hK hh hd => ⟨wanted_yes rfl, ?_⟩
            exact givz_new 76 _ 0 hK.size (run_none (m := 33) rfl elEp.un (by kernel_rfl))
          · refine .val 59 rfl (by simp) (by simp) (by simp) fun a W hK hh hd => ⟨wanted_yes rfl, ?_⟩
            exact givz_run (run_fldA (m := 1) (s := 0) rfl (eval_tmp (hh 4 _ rfl (F15.at 4 rfl))) Tryd.underlying27 rfl rfl (by kernel_rfl) (by decide)) rfl
          · refine .val 60 rfl (by simp) (by simp) (by simp) fun a W hK hh hd => ⟨wanted_yes rfl, ?_⟩
            exact givz_run (run_ldF rfl (eval_tmp (hd.valz (j := 1) (s := 59) (by kernel_rfl) (by simp) rfl rfl)) ((M1.grow hK.below).at 4 rfl) rfl (by kernel_rfl)) rfl
          · refine .val 61 rfl (by simp) (by simp) (by simp) fun a W hK hh hd => ⟨wanted_yes rfl, ?_⟩
            obtain ⟨_, ey0, ⟨gz_3_0, hg_3_0, rfl, hz_3_0⟩⟩ := hd.getKz (j := 0) (s := 58) (by kernel_rfl) (by simp) rfl rfl
            exact givz_app0 elEp rfl (eval_tmp ey0) hg_3_0 hz_3_0 (eval_tmp (hd.valz (j := 2) (s := 60) (by kernel_rfl) (by simp) rfl rfl)) (hV.below (M1.grow hK.below).below) (by omega) hK.size (flat_one epF_one _) (by unfold maxLen; omega) (by omega)
          · refine .val 62 rfl (by simp) (by simp) (by simp) fun a W hK hh hd => ⟨wanted_yes rfl, ?_⟩
            exact givz_run (run_fldA (m := 1) (s := 0) rfl (eval_tmp (hh 5 _ rfl (F15.at 5 rfl))) Tryd.underlying30 rfl rfl (by kernel_rfl) (by decide)) rfl
          · refine .val 63 rfl (by simp) (by simp) (by simp) fun a W hK hh hd => ⟨wanted_yes rfl, ?_⟩
            exact givz_run (run_ldF rfl (eval_tmp (hd.valz (j := 4) (s := 62) (by kernel_rfl) (by simp) rfl rfl)) ((M1.grow hK.below).at 3 rfl) rfl (by kernel_rfl)) rfl
          · refine .val 64 rfl (by simp) (by simp) (by simp) fun a W hK hh hd => ⟨wanted_yes rfl, ?_⟩
            exact givz_run (run_ldB rfl (eval_tmp (hh 6 _ rfl (F15.at 6 rfl))) ((M1.grow hK.below).at 2 rfl) Tryd.underlying23 rfl sz32k (szOf hLk)) rfl
          · refine .val 65 rfl (by simp) (by simp) (by simp) fun a W hK hh hd => ⟨wanted_yes rfl, ?_⟩
            exact givz_callV (run_call rfl Tryd.func41 (by kernel_rfl) rfl (mapE2 (eval_tmp (hd.valz (j := 5) (s := 63) (by kernel_rfl) (by simp) rfl rfl)) (eval_tmp (hd.valz (j := 6) (s := 64) (by kernel_rfl) (by simp) rfl rfl)))) (repoch_any K u k x W (hU.below (M1.grow hK.below).below) hLk hx hLx (by omega) (by omega))
          · refine .val 66 rfl (by simp) (by simp) (by simp) fun a W hK hh hd => ⟨wanted_yes rfl, ?_⟩
            exact givz_new 76 _ 1 hK.size (run_eps1 (e := (epS k x)) (keyedS_len _ _) rfl (eval_tmp (hd.valz (j := 7) (s := 65) (by kernel_rfl) (by simp) rfl rfl)))
          · refine .app 67 3 61 76 33 (0 + E.length) ([] ++ E.flatMap epF) rfl (by simp) (by simp) (by simp) (by kernel_rfl) (by simp) rfl rfl (by kernel_rfl) (by kernel_rfl) (by kernel_rfl) fun a W u hK hh hd hu hO => ⟨wanted_yes rfl, ?_⟩
            obtain ⟨_, ey8, ⟨gz_9_8, hg_9_8, rfl, hz_9_8⟩⟩ := hd.getKz (j := 8) (s := 66) (by kernel_rfl) (by simp) rfl rfl
            exact givz_app (news := ([epS k x].flatMap epF)) elEp rfl (eval_tmp hu) (eval_tmp ey8) hO hK.size (flat_lenG epF_len [epS k x]) hz_9_8 (flat_one epF_one _) (by unfold maxLen; omega) (by omega)
          · refine .val 68 rfl (by simp) (by simp) (by simp) fun a W hK hh hd => ⟨wanted_yes rfl, ?_⟩
            obtain ⟨vz_10_9, ey9, hz_10_9⟩ := hd.getz (j := 9) (s := 67) (by kernel_rfl) (by simp) rfl rfl
            exact givz_run (run_blt1 rfl (eval_tmp ey9) (own_slice hz_10_9) fun _ _ _ => by kernel_rfl) ⟨_, rfl, hz_10_9⟩
          · exact .new 0 _ rfl rfl rfl (by simp) (by simp) (by simp) (fun y e hy he => by rcases y with _ | _ | y <;> simp at hy <;> (try subst hy) <;> simp at he ⊢) fun a W => ⟨wanted_yes rfl, run_alloc rfl (by kernel_rfl)⟩
          · refine .put 0 _ rfl rfl rfl (by simp) (by simp) (by simp) (fun y e hy he => by rcases y with _ | _ | y <;> simp at hy <;> (try subst hy) <;> simp at he ⊢) (by kernel_rfl) 1 27 _ _ rfl rfl (fun a W hK hh hd => ?_) rfl szRg rfl
            obtain ⟨_, ey10, ⟨vz_12_10, rfl, hz_12_10⟩⟩ := hd.getz (j := 10) (s := 68) (by kernel_rfl) (by simp) rfl rfl
            rw [show a.eval _ = _ from (eval_tmp ey10)]
            exact ⟨⟨_, rfl, hz_12_10⟩, rfl, (one_own hz_12_10)⟩
        obtain ⟨pg7, qg7, _, fg7⟩ := hI.blk 0 _ rfl rfl
        generalize gs 0 = g7 at pg7 qg7 fg7
        obtain ⟨_, Bg7, ⟨vz8_, rfl, hz8_⟩⟩ := fg7 rfl
        have Bg7 : Blk w3 g7 27 (#[vz8_]) := Bg7
        have hb3 := KeepW.below hI.keep
        have M2 := M1.grow hb3
        have hO2 := hO1.grow hb3
        have hO3 := OwnR.ofCall M1 (show World.ownsRow w3 _ 76 33 vz8_ ((0 + E.length) + 1) (([] ++ E.flatMap epF) ++ ([epS k x].flatMap epF)) from hz8_)
        have hO4 := hO2.addFar (S := isB 27 (#[vz8_])) (own_ne_ge hO1.owns qg7)
        have hO5 := hO3.addFar (S := isB 27 (#[vz8_])) (own_ne_ty hO3.owns Bg7 (by kernel_rfl))
        have M3 := M2.put1 (cs := #[vz8_]) (Nat.le_trans M1.below.size qg7) Bg7 (mem_far_new M1 qg7)
        have F16 : Fr a16 79 [(3, (.string ⟨no.toArray⟩)), (4, (.pointer (some ⟨g0, 0, none⟩))), (5, (.pointer (some ⟨g1, 0, none⟩))), (6, (.pointer (some ⟨g2, 0, none⟩))), (8, (.pointer (some ⟨g3, 0, none⟩))), (9, (.pointer (some ⟨g4, 0, none⟩))), (10, (.slice none 0 0)), (11, (.int .i64 0)), (13, (.int .i64 (i : Int))), (14, vz6a), (15, (.int .i64 0)), (16, (.pointer (some ⟨g7, 0, none⟩))), (31, (.int .i64 (i : Int))), (32, (.pointer (some ⟨g1, 0, none⟩))), (33, u), (34, (.int .i64 (K.length : Int))), (35, (.bool false)), (47, (.tuple #[vz6a, (.int .i64 0)])), (48, (.agg (cells8 k))), (49, (.string ⟨no.toArray⟩)), (50, (.tuple #[vz6a, (.int .i64 0)])), (51, vz6a), (52, (.int .i64 0)), (53, (.int .i64 0)), (54, (.bool false))] := fr_of_holds hI.tsz (hI.defers.trans F15.defers) ⟨hI.had 3 _ rfl (F15.at 3 rfl), hI.had 4 _ rfl (F15.at 4 rfl), hI.had 5 _ rfl (F15.at 5 rfl), hI.had 6 _ rfl (F15.at 6 rfl), hI.had 8 _ rfl (F15.at 8 rfl), hI.had 9 _ rfl (F15.at 9 rfl), hI.had 10 _ rfl (F15.at 10 rfl), hI.had 11 _ rfl (F15.at 11 rfl), hI.had 13 _ rfl (F15.at 13 rfl), hI.had 14 _ rfl (F15.at 14 rfl), hI.had 15 _ rfl (F15.at 15 rfl), pg7, hI.had 31 _ rfl (F15.at 31 rfl), hI.had 32 _ rfl (F15.at 32 rfl), hI.had 33 _ rfl (F15.at 33 rfl), hI.had 34 _ rfl (F15.at 34 rfl), hI.had 35 _ rfl (F15.at 35 rfl), hI.had 47 _ rfl (F15.at 47 rfl), hI.had 48 _ rfl (F15.at 48 rfl), hI.had 49 _ rfl (F15.at 49 rfl), hI.had 50 _ rfl (F15.at 50 rfl), hI.had 51 _ rfl (F15.at 51 rfl), hI.had 52 _ rfl (F15.at 52 rfl), hI.had 53 _ rfl (F15.at 53 rfl), hI.had 54 _ rfl (F15.at 54 rfl), trivial⟩
        clear F15 M1 M2
        refine nx ?_
        refine wp_seq ?_
        have hMs := M3.sub (.cons_cons _ (.cons _ (.cons _ (.cons_cons _ (.cons_cons _ (.cons_cons _ .slnil))))))
        have hfM : ∀ xq ∈ [(g7, isB 27 (#[vz8_])), (g2, isB 23 (cells8 k)), (g1, isB 30 (#[u])), (g0, isB 27 (#[v]))], xq.1 ∉ [g3, g4] := by
          intro xq hx hg
          simp only [List.mem_cons, List.not_mem_nil, or_false] at hx hg
          rcases hx with rfl | rfl | rfl | rfl <;> rcases hg with hg | hg <;> first | exact absurd hg (setAt_ne M3.nd (i := 0) (j := 2) rfl rfl (by decide)) | exact absurd hg (setAt_ne M3.nd (i := 0) (j := 1) rfl rfl (by decide)) | exact absurd hg (setAt_ne M3.nd (i := 3) (j := 2) rfl rfl (by decide)) | exact absurd hg (setAt_ne M3.nd (i := 3) (j := 1) rfl rfl (by decide)) | exact absurd hg (setAt_ne M3.nd (i := 4) (j := 2) rfl rfl (by decide)) | exact absurd hg (setAt_ne M3.nd (i := 4) (j := 1) rfl rfl (by decide)) | exact absurd hg (setAt_ne M3.nd (i := 5) (j := 2) rfl rfl (by decide)) | exact absurd hg (setAt_ne M3.nd (i := 5) (j := 1) rfl rfl (by decide))
        have hfG : ∀ gq ∈ [g3, g4], w.heap.size ≤ gq := by
          intro gq hg
          simp only [List.mem_cons, List.not_mem_nil, or_false] at hg
          rcases hg with rfl | rfl
          · exact M3.ge 2 rfl
          · exact M3.ge 1 rfl
        have hfovz6a : ∀ gq ∈ [g3, g4], (vz6a : Value).ownBlock ≠ some gq := by
          intro gq hg
          simp only [List.mem_cons, List.not_mem_nil, or_false] at hg
          rcases hg with rfl | rfl
          · exact hO4.far _ (List.mem_of_getElem? (i := 2) rfl)
          · exact hO4.far _ (List.mem_of_getElem? (i := 1) rfl)
        have hfovz8_ : ∀ gq ∈ [g3, g4], (vz8_ : Value).ownBlock ≠ some gq := by
          intro gq hg
          simp only [List.mem_cons, List.not_mem_nil, or_false] at hg
          rcases hg with rfl | rfl
          · exact hO5.far _ (List.mem_of_getElem? (i := 2) rfl)
          · exact hO5.far _ (List.mem_of_getElem? (i := 1) rfl)
        refine wp_region_p 79 [.val (.agg #[vz8_]), .new 23 (#[]) 0, .val (.pointer (some ⟨g1, 0, none⟩)), .val u, .row 23 32 (0 + K.length) ([] ++ K.flatMap dgC), .val (.agg (cells8 k)), .new 23 (List.toArray ([k].flatMap dgC)) 1, .row 23 32 ((0 + K.length) + 1) (([] ++ K.flatMap dgC) ++ ([k].flatMap dgC)), .st (.row 23 32 ((0 + K.length) + 1) (([] ++ K.flatMap dgC) ++ ([k].flatMap dgC))), .val vz6a, .any, .any, .val vz6a, .val (.int .i64 0)] [none, some 4, none, none, some 7, none, some 7, none, none, none, none, none, none, none] [] [⟨10, g3, 27, #[.slice none 0 0], .val (.agg #[vz8_])⟩, ⟨11, g4, 30, #[.slice none 0 0], .st (.row 23 32 ((0 + K.length) + 1) (([] ++ K.flatMap dgC) ++ ([k].flatMap dgC)))⟩] [] (by kernel_rfl) (by kernel_rfl) F16.size ?_ ?_ ?_ ?_ (by kernel_rfl) ?_ fun a17 w4 gs hI => ?_
        · intro d hd
          cases hd
        · intro b hb
          simp only [List.mem_cons, List.not_mem_nil, or_false] at hb
          rcases hb with rfl | rfl
          · exact ⟨Nat.le_of_ble_eq_true (by kernel_rfl), M3.at 2 rfl⟩
          · exact ⟨Nat.le_of_ble_eq_true (by kernel_rfl), M3.at 1 rfl⟩
        · have hne01 : g3 ≠ g4 := setAt_ne M3.nd (i := 2) (j := 1) rfl rfl (by decide)
          intro x y b c hx hy hne
          rcases x with _ | _ | x <;> rcases y with _ | _ | y <;> simp at hx hy hne <;> subst hx <;> subst hy <;> first | exact hne01 | exact hne01.symm
        · intro r hr
          cases hr
        · refine ⟨?_, ?_, ?_, ?_, ?_, ?_, ?_, ?_, ?_, ?_, ?_, ?_, ?_, ?_, trivial⟩
          · refine .val 69 rfl (by simp) (by simp) (by simp) fun a W hK hh hd => ⟨wanted_yes rfl, ?_⟩
            exact givz_run (run_ldB rfl (eval_tmp (hh 16 _ rfl (F16.at 16 rfl))) ((hMs.keepW hK hfM hfG).at 0 rfl) Tryd.underlying27 rfl szRg rfl) rfl
          · refine .val 70 rfl (by simp) (by simp) (by simp) fun a W hK hh hd => ⟨wanted_yes rfl, ?_⟩
            exact givz_new 23 _ 0 hK.size (run_none (m := 32) rfl elKey.un (by kernel_rfl))
          · refine .val 71 rfl (by simp) (by simp) (by simp) fun a W hK hh hd => ⟨wanted_yes rfl, ?_⟩
            exact givz_run (run_fldA (m := 1) (s := 0) rfl (eval_tmp (hh 5 _ rfl (F16.at 5 rfl))) Tryd.underlying30 rfl rfl (by kernel_rfl) (by decide)) rfl
          · refine .val 72 rfl (by simp) (by simp) (by simp) fun a W hK hh hd => ⟨wanted_yes rfl, ?_⟩
            exact givz_run (run_ldF rfl (eval_tmp (hd.valz (j := 2) (s := 71) (by kernel_rfl) (by simp) rfl rfl)) ((hMs.keepW hK hfM hfG).at 2 rfl) rfl (by kernel_rfl)) rfl
          · refine .val 73 rfl (by simp) (by simp) (by simp) fun a W hK hh hd => ⟨wanted_yes rfl, ?_⟩
            obtain ⟨_, ey1, ⟨gz_4_1, hg_4_1, rfl, hz_4_1⟩⟩ := hd.getKz (j := 1) (s := 70) (by kernel_rfl) (by simp) rfl rfl
            exact givz_app0 elKey rfl (eval_tmp ey1) hg_4_1 hz_4_1 (eval_tmp (hd.valz (j := 3) (s := 72) (by kernel_rfl) (by simp) rfl rfl)) (hU.below (hMs.keepW hK hfM hfG).below) (by omega) hK.size (flat_one dgC_one _) (by unfold maxLen; omega) (by omega)
          · refine .val 74 rfl (by simp) (by simp) (by simp) fun a W hK hh hd => ⟨wanted_yes rfl, ?_⟩
            exact givz_run (run_ldB rfl (eval_tmp (hh 6 _ rfl (F16.at 6 rfl))) ((hMs.keepW hK hfM hfG).at 1 rfl) Tryd.underlying23 rfl sz32k (szOf hLk)) rfl
          · refine .val 75 rfl (by simp) (by simp) (by simp) fun a W hK hh hd => ⟨wanted_yes rfl, ?_⟩
            exact givz_new 23 _ 1 hK.size (run_keys1 hLk rfl (eval_tmp (hd.valz (j := 5) (s := 74) (by kernel_rfl) (by simp) rfl rfl)))
          · refine .app 76 4 73 23 32 (0 + K.length) ([] ++ K.flatMap dgC) rfl (by simp) (by simp) (by simp) (by kernel_rfl) (by simp) rfl rfl (by kernel_rfl) (by kernel_rfl) (by kernel_rfl) fun a W u hK hh hd hu hO => ⟨wanted_yes rfl, ?_⟩
            obtain ⟨_, ey6, ⟨gz_7_6, hg_7_6, rfl, hz_7_6⟩⟩ := hd.getKz (j := 6) (s := 75) (by kernel_rfl) (by simp) rfl rfl
            exact givz_app (news := ([k].flatMap dgC)) elKey rfl (eval_tmp hu) (eval_tmp ey6) hO hK.size (flat_lenG dgC_len [k]) hz_7_6 (flat_one dgC_one _) (by unfold maxLen; omega) (by omega)
          · refine .val 77 rfl (by simp) (by simp) (by simp) fun a W hK hh hd => ⟨wanted_yes rfl, ?_⟩
            obtain ⟨vz_8_7, ey7, hz_8_7⟩ := hd.getz (j := 7) (s := 76) (by kernel_rfl) (by simp) rfl rfl
            exact givz_run (run_blt1 rfl (eval_tmp ey7) (own_slice hz_8_7) fun _ _ _ => by kernel_rfl) ⟨_, rfl, hz_8_7⟩
          · refine .val 78 rfl (by simp) (by simp) (by simp) fun a W hK hh hd => ⟨wanted_yes rfl, ?_⟩
            exact givz_run (run_mv rfl (eval_tmp (hh 14 _ rfl (F16.at 14 rfl)))) rfl
          · refine .putO 0 _ rfl rfl rfl (by simp) (fun y e hy he => by rcases y with _ | _ | y <;> simp at hy <;> (try subst hy) <;> simp at he ⊢) (by simp) 1 27 _ _ rfl (fun a hh => eval_tmp (hh 8 _ rfl (F16.at 8 rfl))) (fun a W hK hh hd => ?_) rfl szRg rfl
            rw [show a.eval _ = _ from (eval_tmp (hd.valz (j := 0) (s := 69) (by kernel_rfl) (by simp) rfl rfl))]
            exact ⟨rfl, rfl, (one_own hO5.owns)⟩
          · refine .putO 1 _ rfl rfl rfl (by simp) (fun y e hy he => by rcases y with _ | _ | y <;> simp at hy <;> (try subst hy) <;> simp at he ⊢) (by simp) 1 30 _ _ rfl (fun a hh => eval_tmp (hh 9 _ rfl (F16.at 9 rfl))) (fun a W hK hh hd => ?_) rfl szKy rfl
            obtain ⟨_, ey8, ⟨vz_11_8, rfl, hz_11_8⟩⟩ := hd.getz (j := 8) (s := 77) (by kernel_rfl) (by simp) rfl rfl
            rw [show a.eval _ = _ from (eval_tmp ey8)]
            exact ⟨⟨_, rfl, hz_11_8⟩, rfl, (one_own hz_11_8)⟩
          · refine .val 10 rfl (by simp) (by simp) (by simp) fun a W hK hh hd => ⟨wanted_yes rfl, ?_⟩
            exact givz_run (run_as rfl (eval_tmp (hd.valz (j := 9) (s := 78) (by kernel_rfl) (by simp) rfl rfl))) rfl
          · refine .val 11 rfl (by simp) (by simp) (by simp) fun a W hK hh hd => ⟨wanted_yes rfl, ?_⟩
            exact givz_run (run_as rfl rfl) rfl
        have e10_ : a17.tmps[10]? = some vz6a := by
          obtain ⟨vq, hq1, hq2⟩ := hI.val 12 _ 10 rfl rfl rfl (by simp) (fun _ h => by cases h)
          rw [hq1]
          exact congrArg some hq2
        have e11_ : a17.tmps[11]? = some (.int .i64 0) := by
          obtain ⟨vq, hq1, hq2⟩ := hI.val 13 _ 11 rfl rfl rfl (by simp) (fun _ h => by cases h)
          rw [hq1]
          exact congrArg some hq2
        have fg3z := (hI.old _ (List.mem_of_getElem? (i := 0) rfl)).2 (by kernel_rfl)
        obtain ⟨_, Bg3, rfl⟩ := fg3z
        have Bg3 : Blk w4 g3 27 (#[vz8_]) := Bg3
        have fg4z := (hI.old _ (List.mem_of_getElem? (i := 1) rfl)).2 (by kernel_rfl)
        obtain ⟨_, Bg4, ⟨vz10_, rfl, hz10_⟩⟩ := fg4z
        have Bg4 : Blk w4 g4 30 (#[vz10_]) := Bg4
        have M4 := hMs.keepW hI.keep hfM hfG
        have hO6 := (hO4.sub (.cons_cons _ (.cons _ (.cons _ (.cons_cons _ (.cons_cons _ (.cons_cons _ .slnil))))))).keepW hI.keep hfovz6a
        have hO7 := (hO5.sub (.cons_cons _ (.cons _ (.cons _ (.cons_cons _ (.cons_cons _ (.cons_cons _ .slnil))))))).keepW hI.keep hfovz8_
        have hO8 := OwnR.ofCall hMs (show World.ownsRow w4 _ 23 32 vz10_ ((0 + K.length) + 1) (([] ++ K.flatMap dgC) ++ ([k].flatMap dgC)) from hz10_)
        have hO9 := hO6.addFar (S := isB 27 (#[vz8_])) (hfovz6a g3 (by simp))
        have hO10 := hO7.addFar (S := isB 27 (#[vz8_])) (hfovz8_ g3 (by simp))
        have hO11 := hO8.addFar (S := isB 27 (#[vz8_])) (own_ne_ty hO8.owns Bg3 (by kernel_rfl))
        have M5 := M4.put1 (cs := #[vz8_]) (M3.ge 2 rfl) Bg3 (fun y hy hq => hfM y hy (by rw [hq]; simp))
        have hO12 := hO9.addFar (S := isB 30 (#[vz10_])) (hfovz6a g4 (by simp))
        have hO13 := hO10.addFar (S := isB 30 (#[vz10_])) (hfovz8_ g4 (by simp))
        have hO14 := hO11.addFar (S := isB 30 (#[vz10_])) (own_ne_ty hO11.owns Bg4 (by kernel_rfl))
        have M6 := M5.put1 (cs := #[vz10_]) (M3.ge 1 rfl) Bg4 (far_cons (setAt_ne M3.nd (i := 2) (j := 1) rfl rfl (by decide)) (fun y hy hq => hfM y hy (by rw [hq]; simp)))
        have F17 : Fr a17 79 [(3, (.string ⟨no.toArray⟩)), (4, (.pointer (some ⟨g0, 0, none⟩))), (5, (.pointer (some ⟨g1, 0, none⟩))), (6, (.pointer (some ⟨g2, 0, none⟩))), (8, (.pointer (some ⟨g3, 0, none⟩))), (9, (.pointer (some ⟨g4, 0, none⟩))), (10, vz6a), (11, (.int .i64 0)), (13, (.int .i64 (i : Int))), (14, vz6a), (15, (.int .i64 0)), (16, (.pointer (some ⟨g7, 0, none⟩))), (31, (.int .i64 (i : Int))), (32, (.pointer (some ⟨g1, 0, none⟩))), (33, u), (34, (.int .i64 (K.length : Int))), (35, (.bool false)), (47, (.tuple #[vz6a, (.int .i64 0)])), (48, (.agg (cells8 k))), (49, (.string ⟨no.toArray⟩)), (50, (.tuple #[vz6a, (.int .i64 0)])), (51, vz6a), (52, (.int .i64 0)), (53, (.int .i64 0)), (54, (.bool false))] := fr_of_holds hI.tsz (hI.defers.trans F16.defers) ⟨hI.had 3 _ rfl (F16.at 3 rfl), hI.had 4 _ rfl (F16.at 4 rfl), hI.had 5 _ rfl (F16.at 5 rfl), hI.had 6 _ rfl (F16.at 6 rfl), hI.had 8 _ rfl (F16.at 8 rfl), hI.had 9 _ rfl (F16.at 9 rfl), e10_, e11_, hI.had 13 _ rfl (F16.at 13 rfl), hI.had 14 _ rfl (F16.at 14 rfl), hI.had 15 _ rfl (F16.at 15 rfl), hI.had 16 _ rfl (F16.at 16 rfl), hI.had 31 _ rfl (F16.at 31 rfl), hI.had 32 _ rfl (F16.at 32 rfl), hI.had 33 _ rfl (F16.at 33 rfl), hI.had 34 _ rfl (F16.at 34 rfl), hI.had 35 _ rfl (F16.at 35 rfl), hI.had 47 _ rfl (F16.at 47 rfl), hI.had 48 _ rfl (F16.at 48 rfl), hI.had 49 _ rfl (F16.at 49 rfl), hI.had 50 _ rfl (F16.at 50 rfl), hI.had 51 _ rfl (F16.at 51 rfl), hI.had 52 _ rfl (F16.at 52 rfl), hI.had 53 _ rfl (F16.at 53 rfl), hI.had 54 _ rfl (F16.at 54 rfl), trivial⟩
        clear F16 M3 M4 M5
        refine nx ?_
        refine wp_ret ?_
        exact retV F17 (results_LLTT F17 rfl rfl rfl (loadVar_all (M6.at 1 rfl) Tryd.underlying27 rfl szRg rfl) (loadVar_all (M6.at 0 rfl) Tryd.underlying30 rfl szKy rfl) rfl rfl) ⟨_, rfl, by rw [hs]; exact ⟨_, _, _, _, rfl, ⟨_, rfl, by have h9 := hO13.owns; rw [Nat.zero_add, List.nil_append] at h9; rw [List.length_append, List.flatMap_append]; exact h9⟩, ⟨_, rfl, by have h9 := hO14.owns; rw [Nat.zero_add, List.nil_append] at h9; rw [List.length_append, List.flatMap_append]; exact h9⟩, by rw [shS_len]; exact hO12.owns, rfl⟩, M6.below⟩
    · have hr : rotE E K k no = 1 := by unfold rotE; rw [if_neg (fun h => h hck), if_neg h100, if_neg hin, if_neg hno]
      have hs : rotS E K k no = ([], [], [], 1) := by unfold rotS; rw [hr, if_neg (by omega)]
      refine walk_enter Tryd.func20 rfl rfl rfl fun a0 F0 => ?_
      have M0 := Mem.new w
      refine wsl ?_
      refine sqNew (cs := #[v]) (t := 27) F0 M0 (wantedS rfl) (run_box rfl (F0.ev 0 rfl)) rfl (by decide) fun g0 a1 w1 hgg0 hb1 F1 M1 => ?_
      refine sqNew (cs := #[u]) (t := 30) F1 M1 (wantedS rfl) (run_box rfl (F1.ev 1 rfl)) rfl (by decide) fun g1 a2 w2 hgg1 hb2 F2 M2 => ?_
      refine sqNew (cs := (cells8 k)) (t := 23) F2 M2 (wantedS rfl) (run_box rfl (F2.ev 2 rfl)) rfl (by decide) fun g2 a3 w3 hgg2 hb3 F3 M3 => ?_
      refine sqNew (cs := #[.slice none 0 0]) (t := 27) F3 M3 (wantedS rfl) (run_alloc rfl (by kernel_rfl)) rfl (by decide) fun g3 a4 w4 hgg3 hb4 F4 M4 => ?_
      refine sqNew (cs := #[.slice none 0 0]) (t := 30) F4 M4 (wantedS rfl) (run_alloc rfl (by kernel_rfl)) rfl (by decide) fun g4 a5 w5 hgg4 hb5 F5 M5 => ?_
      refine sr (v := (.slice none 0 0)) F5 (run_as rfl rfl) rfl rfl rfl fun a6 F6 => ?_
      refine sr (v := (.int .i64 0)) F6 (run_as rfl rfl) rfl rfl rfl fun a7 F7 => ?_
      refine sn ?_
      clear F0 F1 F2 F3 F4 F5 F6 M0 M1 M2 M3 M4
      refine wp_seq ?_
      refine wsl ?_
      refine sr F7 (run_ldB rfl (F7.ev 4 rfl) (M5.at 4 rfl) Tryd.underlying27 rfl szRg rfl) rfl rfl rfl fun a8 F8 => ?_
      refine sr F8 (run_ldB rfl (F8.ev 5 rfl) (M5.at 3 rfl) Tryd.underlying30 rfl szKy rfl) rfl rfl rfl fun a9 F9 => ?_
      refine sqC (v := (.int .i64 0)) F9 M5 (wantedS rfl) (run_call rfl Tryd.func22 (by kernel_rfl) rfl (mapE2 (F9.ev 17 rfl) (F9.ev 18 rfl))) rfl (by decide) ((by have h := rchk_any E K v u w5 (hV.below M5.below) hE32 (hU.below M5.below) h32 hcap (by omega) (by omega); rw [hck] at h; exact h)) fun a10 w6 hb6 F10 M6 => ?_
      refine asS F10 rfl rfl rfl rfl rfl fun a11 F11 => ?_
      refine sn ?_
      clear F7 F8 F9 F10 M5
      refine wsl ?_
      refine mvS F11 rfl rfl rfl rfl rfl fun a12 F12 => ?_
      refine sr (v := (.bool false)) F12 (run_nei rfl (F12.ev 20 rfl) rfl (bne_self_eq_false _)) rfl rfl rfl fun a13 F13 => ?_
      refine sn ?_
      clear F11 F12
      refine cfs (F13.ev 21 rfl) ?_
      refine wp_seq ?_
      refine wsl ?_
      refine sr F13 (run_fldA (m := 1) (s := 0) rfl (F13.ev 5 rfl) Tryd.underlying30 rfl rfl (by kernel_rfl) (by decide)) rfl rfl rfl fun a14 F14 => ?_
      refine sr (v := u) F14 (run_ldF rfl (F14.ev 25 rfl) (M6.at 3 rfl) rfl (by kernel_rfl)) rfl rfl rfl fun a15 F15 => ?_
      refine sr F15 (run_lenS rfl (F15.ev 26 rfl) (hU.below M6.below) rfl Tryd.underlying28) rfl rfl rfl fun a16 F16 => ?_
      refine sr (v := (.bool false)) F16 (run_geq rfl (F16.ev 27 rfl) rfl (decide_eq_false (by omega))) rfl rfl rfl fun a17 F17 => ?_
      refine sn ?_
      clear F13 F14 F15 F16
      refine cfs (F17.ev 28 rfl) ?_
      refine wp_seq ?_
      refine wsl ?_
      refine sr (v := (.int .i64 0)) F17 (run_as rfl rfl) rfl rfl rfl fun a18 F18 => ?_
      refine sn ?_
      clear F17
      refine wp_block ?_
      refine wkLoop (fun m a0 w2 => ∃ i : Nat, i ≤ K.length ∧ m = K.length - i ∧ k ∉ K.take i ∧ Fr a0 79 [(3, (.string ⟨no.toArray⟩)), (4, (.pointer (some ⟨g0, 0, none⟩))), (5, (.pointer (some ⟨g1, 0, none⟩))), (6, (.pointer (some ⟨g2, 0, none⟩))), (8, (.pointer (some ⟨g3, 0, none⟩))), (9, (.pointer (some ⟨g4, 0, none⟩))), (10, (.slice none 0 0)), (11, (.int .i64 0)), (13, .int .i64 (i : Int))] ∧ Mem w [(g4, isB 30 (#[.slice none 0 0])), (g3, isB 27 (#[.slice none 0 0])), (g2, isB 23 (cells8 k)), (g1, isB 30 (#[u])), (g0, isB 27 (#[v]))] w2) K.length ⟨0, Nat.zero_le _, rfl, by simp, F18.sub ⟨rfl, rfl, rfl, rfl, rfl, rfl, rfl, rfl, rfl, trivial⟩, M6⟩ ?_
      rintro m a0 w1 ⟨i, hi, rfl, hni, F0, M0⟩
      by_cases h1 : i < K.length
      · obtain ⟨y, hy⟩ : ∃ y, K[i]? = some y := ⟨K[i], List.getElem?_eq_getElem h1⟩
        have hLy := h32 y (List.mem_of_getElem? hy)
        have hyk : y ≠ k := fun e => hin (e ▸ List.mem_of_getElem? hy)
        refine wp_seq ?_
        refine wsl ?_
        refine mvS F0 rfl rfl rfl rfl rfl fun a1 F1 => ?_
        refine sr F1 (run_fldA (m := 1) (s := 0) rfl (F1.ev 5 rfl) Tryd.underlying30 rfl rfl (by kernel_rfl) (by decide)) rfl rfl rfl fun a2 F2 => ?_
        refine sr (v := u) F2 (run_ldF rfl (F2.ev 32 rfl) (M0.at 3 rfl) rfl (by kernel_rfl)) rfl rfl rfl fun a3 F3 => ?_
        refine sr F3 (run_lenS rfl (F3.ev 33 rfl) (hU.below M0.below) rfl Tryd.underlying28) rfl rfl rfl fun a4 F4 => ?_
        refine sr (v := (.bool true)) F4 (run_lss rfl (F4.ev 31 rfl) (F4.ev 34 rfl) (decide_eq_true (by omega))) rfl rfl rfl fun a5 F5 => ?_
        refine sn ?_
        clear F0 F1 F2 F3 F4
        refine cts (F5.ev 35 rfl) ?_
        refine wp_seq ?_
        refine wp_block ?_
        refine wp_seq ?_
        obtain ⟨KL, hKL⟩ : ∃ KL, KL = [kval (.pointer (some ⟨g1, 0, none⟩)), kval u, kval (.int .i64 (i : Int)), kval (slPtr u (i * 32)), kval (.agg (cells8 y)), kval (.agg (cells8 k)), kval (.bool false)] := ⟨_, rfl⟩
        have K0 := getK hKL 0
        have K1 := getK hKL 1
        have K2 := getK hKL 2
        have K3 := getK hKL 3
        have K4 := getK hKL 4
        have K5 := getK hKL 5
        have K6 := getK hKL 6
        clear hKL
        refine wp_region_kd 79 (by kernel_rfl) (by kernel_rfl) (by kernel_rfl) F5.size KL ?_ ?_
        · refine ⟨?_, ?_, ?_, ?_, ?_, ?_, ?_, trivial⟩
          · exact asksY rfl fun a W hS hh hd => giv_run (run_fldA (m := 1) (s := 0) rfl (eval_tmp (hh 5 _ rfl (F5.at 5 rfl))) Tryd.underlying30 rfl rfl (by kernel_rfl) (by decide)) K0
          · exact asksY rfl fun a W hS hh hd => giv_run (run_ldF rfl (eval_tmp (hd.vl 0 38 (by kernel_rfl) K0)) ((M0.grow hS).at 3 rfl) rfl (by kernel_rfl)) K1
          · exact asksY rfl fun a W hS hh hd => giv_run (run_mv rfl (eval_tmp (hh 13 _ rfl (F5.at 13 rfl)))) K2
          · exact asksY rfl fun a W hS hh hd => giv_run (run_atP (i := i) rfl (eval_tmp (hd.vl 1 39 (by kernel_rfl) K1)) (eval_tmp (hd.vl 2 40 (by kernel_rfl) K2)) rfl (hU.below (M0.grow hS).below) (by omega) elKey.un (by kernel_rfl)) K3
          · exact asksY rfl fun a W hS hh hd => giv_run (ldKey hLy (run_ldPS (ys := dgC y) rfl (eval_tmp (hd.vl 3 41 (by kernel_rfl) K3)) (hU.below (M0.grow hS).below) (by omega) (fun j u hj => flat_at dgC_len hy j hj) (by kernel_rfl) (by kernel_rfl))) K4
          · exact asksY rfl fun a W hS hh hd => giv_run (run_ldB rfl (eval_tmp (hh 6 _ rfl (F5.at 6 rfl))) ((M0.grow hS).at 2 rfl) Tryd.underlying23 rfl sz32k (szOf hLk)) K5
          · exact asksY rfl fun a W hS hh hd => giv_run (run_eqKB hLy hLk (beq_eq_false_iff_ne.2 hyk) rfl (eval_tmp (hd.vl 4 42 (by kernel_rfl) K4)) (eval_tmp (hd.vl 5 43 (by kernel_rfl) K5))) K6
        · intro a6 w2 hb2 hK
          have e0 := hK.vl 0 38 (by kernel_rfl) K0
          have e1 := hK.vl 1 39 (by kernel_rfl) K1
          have e2 := hK.vl 2 40 (by kernel_rfl) K2
          have e3 := hK.vl 3 41 (by kernel_rfl) K3
          have e4 := hK.vl 4 42 (by kernel_rfl) K4
          have e5 := hK.vl 5 43 (by kernel_rfl) K5
          have e6 := hK.vl 6 44 (by kernel_rfl) K6
          have F6 : Fr a6 79 [(3, (.string ⟨no.toArray⟩)), (4, (.pointer (some ⟨g0, 0, none⟩))), (5, (.pointer (some ⟨g1, 0, none⟩))), (6, (.pointer (some ⟨g2, 0, none⟩))), (8, (.pointer (some ⟨g3, 0, none⟩))), (9, (.pointer (some ⟨g4, 0, none⟩))), (10, (.slice none 0 0)), (11, (.int .i64 0)), (13, (.int .i64 (i : Int))), (31, (.int .i64 (i : Int))), (32, (.pointer (some ⟨g1, 0, none⟩))), (33, u), (34, (.int .i64 (K.length : Int))), (35, (.bool true)), (44, (.bool false))] := (hK.fr F5 [_, _, _, _, _, _, _] ⟨e0, e1, e2, e3, e4, e5, e6, trivial⟩).sub ⟨rfl, rfl, rfl, rfl, rfl, rfl, rfl, rfl, rfl, rfl, rfl, rfl, rfl, rfl, rfl, trivial⟩
          have M1 := M0.grow hb2
          clear hK K0 e0 K1 e1 K2 e2 K3 e3 K4 e4 K5 e5 K6 e6
          clear F5 M0
          refine nx ?_
          refine wp_cond_false (F6.ev 44 rfl) ?_
          refine wp_skip ?_
          refine bkEnd ?_
          refine nx ?_
          refine wp_region_lit ?_
          refine mvS F6 rfl rfl rfl rfl rfl fun a7 F7 => ?_
          refine sr F7 (run_add (r := ((i + 1 : Nat) : Int)) rfl (F7.ev 36 rfl) rfl (by rw [IntKind.wrap_i64]; omega)) rfl rfl rfl fun a8 F8 => ?_
          refine asS F8 rfl rfl rfl rfl rfl fun a9 F9 => ?_
          refine sn ?_
          clear F6 F7 F8
          have hky : k ≠ y := fun e => hyk e.symm
          exact ⟨_, by omega, i + 1, by omega, rfl, by rw [List.take_add_one, hy]; simp [hni, hky], F9.sub ⟨rfl, rfl, rfl, rfl, rfl, rfl, rfl, rfl, rfl, trivial⟩, M1⟩
      · skip
        refine wp_seq ?_
        refine wsl ?_
        refine mvS F0 rfl rfl rfl rfl rfl fun a1 F1 => ?_
        refine sr F1 (run_fldA (m := 1) (s := 0) rfl (F1.ev 5 rfl) Tryd.underlying30 rfl rfl (by kernel_rfl) (by decide)) rfl rfl rfl fun a2 F2 => ?_
        refine sr (v := u) F2 (run_ldF rfl (F2.ev 32 rfl) (M0.at 3 rfl) rfl (by kernel_rfl)) rfl rfl rfl fun a3 F3 => ?_
        refine sr F3 (run_lenS rfl (F3.ev 33 rfl) (hU.below M0.below) rfl Tryd.underlying28) rfl rfl rfl fun a4 F4 => ?_
        refine sr (v := (.bool false)) F4 (run_lss rfl (F4.ev 31 rfl) (F4.ev 34 rfl) (decide_eq_false (by omega))) rfl rfl rfl fun a5 F5 => ?_
        refine sn ?_
        clear F0 F1 F2 F3 F4
        refine wp_cond_false (F5.ev 35 rfl) ?_
        refine wp_exit ?_
        refine nxExit ?_
        refine nxExit ?_
        refine bkHere ?_
        refine nx ?_
        refine wsl ?_
        refine sr F5 (run_ldB rfl (F5.ev 6 rfl) (M0.at 2 rfl) Tryd.underlying23 rfl sz32k (szOf hLk)) rfl rfl rfl fun a6 F6 => ?_
        refine mvS F6 rfl rfl rfl rfl rfl fun a7 F7 => ?_
        refine sqC (v := (.tuple #[(.slice none 0 0), (.int .i64 1)])) F7 M0 (wantedS rfl) (run_call rfl Tryd.func40 (by kernel_rfl) rfl (mapE3 (F7.ev 48 rfl) rfl (F7.ev 49 rfl))) rfl (by decide) (rsplitE_any k no w1 hLk hno) fun a8 w2 hb2 F8 M1 => ?_
        refine mvS F8 rfl rfl rfl rfl rfl fun a9 F9 => ?_
        refine sr (v := (.slice none 0 0)) F9 (run_ext rfl (F9.ev 47 rfl) rfl) rfl rfl rfl fun a10 F10 => ?_
        refine sr (v := (.int .i64 1)) F10 (run_ext rfl (F10.ev 47 rfl) rfl) rfl rfl rfl fun a11 F11 => ?_
        refine asS F11 rfl rfl rfl rfl rfl fun a12 F12 => ?_
        refine asS F12 rfl rfl rfl rfl rfl fun a13 F13 => ?_
        refine sn ?_
        clear F5 F6 F7 F8 F9 F10 F11 F12 M0
        refine wp_seq ?_
        refine wsl ?_
        refine mvS F13 rfl rfl rfl rfl rfl fun a14 F14 => ?_
        refine sr (v := (.bool true)) F14 (run_nei rfl (F14.ev 53 rfl) rfl (bne_iff_ne.2 (by omega))) rfl rfl rfl fun a15 F15 => ?_
        refine sn ?_
        clear F13 F14
        refine wp_cond_true (F15.ev 54 rfl) ?_
        refine wsl ?_
        refine sr (v := (.agg #[.slice none 0 0])) F15 (run_blt (vs := #[]) (cs := #[.slice none 0 0]) rfl (by simp) (by kernel_rfl)) rfl rfl rfl fun a16 F16 => ?_
        refine sr (v := (.agg #[.slice none 0 0])) F16 (run_blt (vs := #[]) (cs := #[.slice none 0 0]) rfl (by simp) (by kernel_rfl)) rfl rfl rfl fun a17 F17 => ?_
        refine mvS F17 rfl rfl rfl rfl rfl fun a18 F18 => ?_
        refine sqStore (i := 1) F18 M1 rfl rfl rfl (F18.ev 8 rfl) (F18.ev 55 rfl) rfl szRg rfl rfl (arr_one rfl) fun a19 w3 F19 M2 => ?_
        refine sqStore (i := 0) F19 M2 rfl rfl rfl (F19.ev 9 rfl) (F19.ev 56 rfl) rfl szKy rfl rfl (arr_one rfl) fun a20 w4 F20 M3 => ?_
        refine sr (v := (.slice none 0 0)) F20 (run_as rfl rfl) rfl rfl rfl fun a21 F21 => ?_
        refine asS F21 rfl rfl rfl rfl rfl fun a22 F22 => ?_
        refine sn ?_
        clear F15 F16 F17 F18 F19 F20 F21 M1 M2
        refine wp_ret ?_
        refine nxRet ?_
        exact retV F22 (results_LLTT F22 rfl rfl rfl (loadVar_all (M3.at 1 rfl) Tryd.underlying27 rfl szRg rfl) (loadVar_all (M3.at 0 rfl) Tryd.underlying30 rfl szKy rfl) rfl rfl) ⟨_, rfl, by rw [hs]; exact ⟨_, _, _, _, rfl, ⟨_, rfl, ⟨rfl, .inl ⟨rfl, rfl⟩⟩⟩, ⟨_, rfl, ⟨rfl, .inl ⟨rfl, rfl⟩⟩⟩, ⟨rfl, .inl ⟨rfl, rfl⟩⟩, rfl⟩, M3.below⟩
  · have hr : rotE E K k no = checkS E K := by unfold rotE; rw [if_pos hck]
    have hs : rotS E K k no = ([], [], [], checkS E K) := by unfold rotS; rw [hr, if_neg hck]
    refine walk_enter Tryd.func20 rfl rfl rfl fun a0 F0 => ?_
    have M0 := Mem.new w
    refine wsl ?_
    refine sqNew (cs := #[v]) (t := 27) F0 M0 (wantedS rfl) (run_box rfl (F0.ev 0 rfl)) rfl (by decide) fun g0 a1 w1 hgg0 hb1 F1 M1 => ?_
    refine sqNew (cs := #[u]) (t := 30) F1 M1 (wantedS rfl) (run_box rfl (F1.ev 1 rfl)) rfl (by decide) fun g1 a2 w2 hgg1 hb2 F2 M2 => ?_
    refine sqNew (cs := (cells8 k)) (t := 23) F2 M2 (wantedS rfl) (run_box rfl (F2.ev 2 rfl)) rfl (by decide) fun g2 a3 w3 hgg2 hb3 F3 M3 => ?_
    refine sqNew (cs := #[.slice none 0 0]) (t := 27) F3 M3 (wantedS rfl) (run_alloc rfl (by kernel_rfl)) rfl (by decide) fun g3 a4 w4 hgg3 hb4 F4 M4 => ?_
    refine sqNew (cs := #[.slice none 0 0]) (t := 30) F4 M4 (wantedS rfl) (run_alloc rfl (by kernel_rfl)) rfl (by decide) fun g4 a5 w5 hgg4 hb5 F5 M5 => ?_
    refine sr (v := (.slice none 0 0)) F5 (run_as rfl rfl) rfl rfl rfl fun a6 F6 => ?_
    refine sr (v := (.int .i64 0)) F6 (run_as rfl rfl) rfl rfl rfl fun a7 F7 => ?_
    refine sn ?_
    clear F0 F1 F2 F3 F4 F5 F6 M0 M1 M2 M3 M4
    refine wp_seq ?_
    refine wsl ?_
    refine sr F7 (run_ldB rfl (F7.ev 4 rfl) (M5.at 4 rfl) Tryd.underlying27 rfl szRg rfl) rfl rfl rfl fun a8 F8 => ?_
    refine sr F8 (run_ldB rfl (F8.ev 5 rfl) (M5.at 3 rfl) Tryd.underlying30 rfl szKy rfl) rfl rfl rfl fun a9 F9 => ?_
    refine sqC (v := (.int .i64 (checkS E K))) F9 M5 (wantedS rfl) (run_call rfl Tryd.func22 (by kernel_rfl) rfl (mapE2 (F9.ev 17 rfl) (F9.ev 18 rfl))) rfl (by decide) (rchk_any E K v u w5 (hV.below M5.below) hE32 (hU.below M5.below) h32 hcap (by omega) (by omega)) fun a10 w6 hb6 F10 M6 => ?_
    refine asS F10 rfl rfl rfl rfl rfl fun a11 F11 => ?_
    refine sn ?_
    clear F7 F8 F9 F10 M5
    refine wsl ?_
    refine mvS F11 rfl rfl rfl rfl rfl fun a12 F12 => ?_
    refine sr (v := (.bool true)) F12 (run_nei rfl (F12.ev 20 rfl) rfl (bne_iff_ne.2 hck)) rfl rfl rfl fun a13 F13 => ?_
    refine sn ?_
    clear F11 F12
    refine wp_cond_true (F13.ev 21 rfl) ?_
    refine wsl ?_
    refine sr (v := (.agg #[.slice none 0 0])) F13 (run_blt (vs := #[]) (cs := #[.slice none 0 0]) rfl (by simp) (by kernel_rfl)) rfl rfl rfl fun a14 F14 => ?_
    refine sr (v := (.agg #[.slice none 0 0])) F14 (run_blt (vs := #[]) (cs := #[.slice none 0 0]) rfl (by simp) (by kernel_rfl)) rfl rfl rfl fun a15 F15 => ?_
    refine mvS F15 rfl rfl rfl rfl rfl fun a16 F16 => ?_
    refine sqStore (i := 1) F16 M6 rfl rfl rfl (F16.ev 8 rfl) (F16.ev 22 rfl) rfl szRg rfl rfl (arr_one rfl) fun a17 w7 F17 M7 => ?_
    refine sqStore (i := 0) F17 M7 rfl rfl rfl (F17.ev 9 rfl) (F17.ev 23 rfl) rfl szKy rfl rfl (arr_one rfl) fun a18 w8 F18 M8 => ?_
    refine sr (v := (.slice none 0 0)) F18 (run_as rfl rfl) rfl rfl rfl fun a19 F19 => ?_
    refine asS F19 rfl rfl rfl rfl rfl fun a20 F20 => ?_
    refine sn ?_
    clear F13 F14 F15 F16 F17 F18 F19 M6 M7
    refine wp_ret ?_
    refine nxRet ?_
    exact retV F20 (results_LLTT F20 rfl rfl rfl (loadVar_all (M8.at 1 rfl) Tryd.underlying27 rfl szRg rfl) (loadVar_all (M8.at 0 rfl) Tryd.underlying30 rfl szKy rfl) rfl rfl) ⟨_, rfl, by rw [hs]; exact ⟨_, _, _, _, rfl, ⟨_, rfl, ⟨rfl, .inl ⟨rfl, rfl⟩⟩⟩, ⟨_, rfl, ⟨rfl, .inl ⟨rfl, rfl⟩⟩⟩, ⟨rfl, .inl ⟨rfl, rfl⟩⟩, rfl⟩, M8.below⟩
end Go.Proofs.YtconhhhggckcbaaDoor
