/- The walks of the reference's Same, SameRing and Make. Printed by gen_key25.py. -/
import Derived.Test.YtconhhhggckcbaaDoorShT
import Derived.Test.YtconhhhggckcbaaDoorEpQ
namespace Go.Proofs.YtconhhhggckcbaaDoor
open Go.RowKit

attribute [local irreducible] sealS keyedS nonceS openS
set_option maxRecDepth 100000 in
set_option maxHeartbeats 1000000 in
theorem samer_any (E : List Ep) (v u : Value) (w : World) (hV : Sl w v 33 E.length (E.flatMap epF)) (hU : Sl w u 33 E.length (E.flatMap epF)) (hE32 : ∀ e ∈ E, e.c.length = 32) (hEl : E.length < 2 ^ 36) : Calls Tryd.prog 15 #[.agg #[v], .agg #[u]] w fun e w' => e = .returned (.bool true) ∧ Below w.heap.size w w' := by
  refine walk_enter Tryd.func15 rfl rfl rfl fun a0 F0 => ?_
  have M0 := Mem.new w
  refine wsl ?_
  refine sqNew (cs := #[v]) (t := 27) F0 M0 (wantedS rfl) (run_box rfl (F0.ev 0 rfl)) rfl (by decide) fun g0 a1 w1 hgg0 hb1 F1 M1 => ?_
  refine sqNew (cs := #[u]) (t := 27) F1 M1 (wantedS rfl) (run_box rfl (F1.ev 1 rfl)) rfl (by decide) fun g1 a2 w2 hgg1 hb2 F2 M2 => ?_
  refine sr (v := (.bool false)) F2 (run_as rfl rfl) rfl rfl rfl fun a3 F3 => ?_
  refine sn ?_
  clear F0 F1 F2 M0 M1
  refine wp_seq ?_
  refine wsl ?_
  refine sr F3 (run_fldA (m := 1) (s := 0) rfl (F3.ev 2 rfl) Tryd.underlying27 rfl rfl (by kernel_rfl) (by decide)) rfl rfl rfl fun a4 F4 => ?_
  refine sr (v := v) F4 (run_ldF rfl (F4.ev 6 rfl) (M2.at 1 rfl) rfl (by kernel_rfl)) rfl rfl rfl fun a5 F5 => ?_
  refine sr F5 (run_lenS rfl (F5.ev 7 rfl) (hV.below M2.below) rfl Tryd.underlying25) rfl rfl rfl fun a6 F6 => ?_
  refine sr F6 (run_fldA (m := 1) (s := 0) rfl (F6.ev 3 rfl) Tryd.underlying27 rfl rfl (by kernel_rfl) (by decide)) rfl rfl rfl fun a7 F7 => ?_
  refine sr (v := u) F7 (run_ldF rfl (F7.ev 9 rfl) (M2.at 0 rfl) rfl (by kernel_rfl)) rfl rfl rfl fun a8 F8 => ?_
  refine sr F8 (run_lenS rfl (F8.ev 10 rfl) (hU.below M2.below) rfl Tryd.underlying25) rfl rfl rfl fun a9 F9 => ?_
  refine sr (v := (.bool false)) F9 (run_nei rfl (F9.ev 8 rfl) (F9.ev 11 rfl) (bne_eq_false_iff_eq.2 (by omega))) rfl rfl rfl fun a10 F10 => ?_
  refine sn ?_
  clear F3 F4 F5 F6 F7 F8 F9
  refine cfs (F10.ev 12 rfl) ?_
  refine wp_seq ?_
  refine wsl ?_
  refine sr (v := (.int .i64 0)) F10 (run_as rfl rfl) rfl rfl rfl fun a11 F11 => ?_
  refine sn ?_
  clear F10
  refine wp_block ?_
  refine wkLoop (fun m a0 w2 => ∃ i : Nat, i ≤ E.length ∧ m = E.length - i ∧ Fr a0 31 [(2, .pointer (some ⟨g0, 0, none⟩)), (3, .pointer (some ⟨g1, 0, none⟩)), (5, .int .i64 (i : Int))] ∧ Mem w [(g1, isB 27 #[u]), (g0, isB 27 #[v])] w2) E.length ⟨0, Nat.zero_le _, rfl, F11.sub ⟨rfl, rfl, rfl, trivial⟩, M2⟩ ?_
  rintro m a0 w1 ⟨i, hi, rfl, F0, M0⟩
  by_cases h1 : i < E.length
  · obtain ⟨e, he⟩ : ∃ y, E[i]? = some y := ⟨E[i], List.getElem?_eq_getElem h1⟩
    have hLe := hE32 e (List.mem_of_getElem? he)
    refine wp_seq ?_
    refine wsl ?_
    refine mvS F0 rfl rfl rfl rfl rfl fun a1 F1 => ?_
    refine sr F1 (run_fldA (m := 1) (s := 0) rfl (F1.ev 2 rfl) Tryd.underlying27 rfl rfl (by kernel_rfl) (by decide)) rfl rfl rfl fun a2 F2 => ?_
    refine sr (v := v) F2 (run_ldF rfl (F2.ev 14 rfl) (M0.at 1 rfl) rfl (by kernel_rfl)) rfl rfl rfl fun a3 F3 => ?_
    refine sr F3 (run_lenS rfl (F3.ev 15 rfl) (hV.below M0.below) rfl Tryd.underlying25) rfl rfl rfl fun a4 F4 => ?_
    refine sr (v := (.bool true)) F4 (run_lss rfl (F4.ev 13 rfl) (F4.ev 16 rfl) (decide_eq_true (by omega))) rfl rfl rfl fun a5 F5 => ?_
    refine sn ?_
    clear F0 F1 F2 F3 F4
    refine cts (F5.ev 17 rfl) ?_
    refine wp_seq ?_
    refine wp_block ?_
    refine wp_seq ?_
    obtain ⟨KL, hKL⟩ : ∃ KL, KL = [kval (.pointer (some ⟨g0, 0, none⟩)), kval v, kval (.int .i64 (i : Int)), kval (slPtr v (i * 33)), kval (.agg (epC e)), kval (.pointer (some ⟨g1, 0, none⟩)), kval u, kval (.int .i64 (i : Int)), kval (slPtr u (i * 33)), kval (.agg (epC e)), kval (.bool false)] := ⟨_, rfl⟩
    have K0 := getK hKL 0
    have K1 := getK hKL 1
    have K2 := getK hKL 2
    have K3 := getK hKL 3
    have K4 := getK hKL 4
    have K5 := getK hKL 5
    have K6 := getK hKL 6
    have K7 := getK hKL 7
    have K8 := getK hKL 8
    have K9 := getK hKL 9
    have K10 := getK hKL 10
    clear hKL
    refine wp_region_kd 31 (by kernel_rfl) (by kernel_rfl) (by kernel_rfl) F5.size KL ?_ ?_
    · refine ⟨?_, ?_, ?_, ?_, ?_, ?_, ?_, ?_, ?_, ?_, ?_, trivial⟩
      · exact asksY rfl fun a W hS hh hd => giv_run (run_fldA (m := 1) (s := 0) rfl (eval_tmp (hh 2 _ rfl (F5.at 2 rfl))) Tryd.underlying27 rfl rfl (by kernel_rfl) (by decide)) K0
      · exact asksY rfl fun a W hS hh hd => giv_run (run_ldF rfl (eval_tmp (hd.vl 0 20 (by kernel_rfl) K0)) ((M0.grow hS).at 1 rfl) rfl (by kernel_rfl)) K1
      · exact asksY rfl fun a W hS hh hd => giv_run (run_mv rfl (eval_tmp (hh 5 _ rfl (F5.at 5 rfl)))) K2
      · exact asksY rfl fun a W hS hh hd => giv_run (run_atP (i := i) rfl (eval_tmp (hd.vl 1 21 (by kernel_rfl) K1)) (eval_tmp (hd.vl 2 22 (by kernel_rfl) K2)) rfl (hV.below (M0.grow hS).below) (by omega) elEp.un (by kernel_rfl)) K3
      · exact asksY rfl fun a W hS hh hd => giv_run (ldEp hLe (run_ldPS (ys := epF e) rfl (eval_tmp (hd.vl 3 23 (by kernel_rfl) K3)) (hV.below (M0.grow hS).below) (by omega) (fun j u hj => flat_at epF_len he j hj) (by kernel_rfl) (by kernel_rfl))) K4
      · exact asksY rfl fun a W hS hh hd => giv_run (run_fldA (m := 1) (s := 0) rfl (eval_tmp (hh 3 _ rfl (F5.at 3 rfl))) Tryd.underlying27 rfl rfl (by kernel_rfl) (by decide)) K5
      · exact asksY rfl fun a W hS hh hd => giv_run (run_ldF rfl (eval_tmp (hd.vl 5 25 (by kernel_rfl) K5)) ((M0.grow hS).at 0 rfl) rfl (by kernel_rfl)) K6
      · exact asksY rfl fun a W hS hh hd => giv_run (run_mv rfl (eval_tmp (hh 5 _ rfl (F5.at 5 rfl)))) K7
      · exact asksY rfl fun a W hS hh hd => giv_run (run_atP (i := i) rfl (eval_tmp (hd.vl 6 26 (by kernel_rfl) K6)) (eval_tmp (hd.vl 7 27 (by kernel_rfl) K7)) rfl (hU.below (M0.grow hS).below) (by omega) elEp.un (by kernel_rfl)) K8
      · exact asksY rfl fun a W hS hh hd => giv_run (ldEp hLe (run_ldPS (ys := epF e) rfl (eval_tmp (hd.vl 8 28 (by kernel_rfl) K8)) (hU.below (M0.grow hS).below) (by omega) (fun j u hj => flat_at epF_len he j hj) (by kernel_rfl) (by kernel_rfl))) K9
      · exact asksY rfl fun a W hS hh hd => giv_run (run_neEp hLe hLe (by rw [decide_eq_true rfl]; rfl) rfl (eval_tmp (hd.vl 4 24 (by kernel_rfl) K4)) (eval_tmp (hd.vl 9 29 (by kernel_rfl) K9))) K10
    · intro a6 w2 hb2 hK
      have e0 := hK.vl 0 20 (by kernel_rfl) K0
      have e1 := hK.vl 1 21 (by kernel_rfl) K1
      have e2 := hK.vl 2 22 (by kernel_rfl) K2
      have e3 := hK.vl 3 23 (by kernel_rfl) K3
      have e4 := hK.vl 4 24 (by kernel_rfl) K4
      have e5 := hK.vl 5 25 (by kernel_rfl) K5
      have e6 := hK.vl 6 26 (by kernel_rfl) K6
      have e7 := hK.vl 7 27 (by kernel_rfl) K7
      have e8 := hK.vl 8 28 (by kernel_rfl) K8
      have e9 := hK.vl 9 29 (by kernel_rfl) K9
      have e10 := hK.vl 10 30 (by kernel_rfl) K10
      have F6 : Fr a6 31 [(2, (.pointer (some ⟨g0, 0, none⟩))), (3, (.pointer (some ⟨g1, 0, none⟩))), (5, (.int .i64 (i : Int))), (13, (.int .i64 (i : Int))), (14, (.pointer (some ⟨g0, 0, none⟩))), (15, v), (16, (.int .i64 (E.length : Int))), (17, (.bool true)), (30, (.bool false))] := (hK.fr F5 [_, _, _, _, _, _, _, _, _, _, _] ⟨e0, e1, e2, e3, e4, e5, e6, e7, e8, e9, e10, trivial⟩).sub ⟨rfl, rfl, rfl, rfl, rfl, rfl, rfl, rfl, rfl, trivial⟩
      have M1 := M0.grow hb2
      clear hK K0 e0 K1 e1 K2 e2 K3 e3 K4 e4 K5 e5 K6 e6 K7 e7 K8 e8 K9 e9 K10 e10
      clear F5 M0
      refine nx ?_
      refine wp_cond_false (F6.ev 30 rfl) ?_
      refine wp_skip ?_
      refine bkEnd ?_
      refine nx ?_
      refine wp_region_lit ?_
      refine mvS F6 rfl rfl rfl rfl rfl fun a7 F7 => ?_
      refine sr F7 (run_add (r := ((i + 1 : Nat) : Int)) rfl (F7.ev 18 rfl) rfl (by rw [IntKind.wrap_i64]; omega)) rfl rfl rfl fun a8 F8 => ?_
      refine asS F8 rfl rfl rfl rfl rfl fun a9 F9 => ?_
      refine sn ?_
      clear F6 F7 F8
      exact ⟨_, by omega, i + 1, by omega, rfl, F9.sub ⟨rfl, rfl, rfl, trivial⟩, M1⟩
  · skip
    refine wp_seq ?_
    refine wsl ?_
    refine mvS F0 rfl rfl rfl rfl rfl fun a1 F1 => ?_
    refine sr F1 (run_fldA (m := 1) (s := 0) rfl (F1.ev 2 rfl) Tryd.underlying27 rfl rfl (by kernel_rfl) (by decide)) rfl rfl rfl fun a2 F2 => ?_
    refine sr (v := v) F2 (run_ldF rfl (F2.ev 14 rfl) (M0.at 1 rfl) rfl (by kernel_rfl)) rfl rfl rfl fun a3 F3 => ?_
    refine sr F3 (run_lenS rfl (F3.ev 15 rfl) (hV.below M0.below) rfl Tryd.underlying25) rfl rfl rfl fun a4 F4 => ?_
    refine sr (v := (.bool false)) F4 (run_lss rfl (F4.ev 13 rfl) (F4.ev 16 rfl) (decide_eq_false (by omega))) rfl rfl rfl fun a5 F5 => ?_
    refine sn ?_
    clear F0 F1 F2 F3 F4
    refine wp_cond_false (F5.ev 17 rfl) ?_
    refine wp_exit ?_
    refine nxExit ?_
    refine nxExit ?_
    refine bkHere ?_
    refine nx ?_
    refine wsl ?_
    refine sr (v := (.bool true)) F5 (run_as rfl rfl) rfl rfl rfl fun a6 F6 => ?_
    refine sn ?_
    clear F5
    refine wp_ret ?_
    exact ret1 F6 rfl rfl ⟨rfl, M0.below⟩
end Go.Proofs.YtconhhhggckcbaaDoor
