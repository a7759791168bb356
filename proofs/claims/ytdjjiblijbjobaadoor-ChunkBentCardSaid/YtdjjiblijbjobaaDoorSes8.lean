/- The walks of the reference's unlike and ApartKeyed. Printed by gen_ses8.py. -/
import Derived.Test.YtdjjiblijbjobaaDoorKyBB
import Derived.Test.YtdjjiblijbjobaaDoorNumTexts
namespace Go.Proofs.YtdjjiblijbjobaaDoor
open Go.RowKit

attribute [local simp] xorS_len tagS_len keyedS_len nonceS_len
set_option maxRecDepth 100000 in
set_option maxHeartbeats 1000000 in
theorem unlike_any (l S : List (List UInt8)) (v u : Value) (w : World) (hV : Sl w v 1 l.length (l.map tx)) (hU : Sl w u 32 S.length (S.flatMap dgC)) (hSl : S.length = l.length) (h32 : ∀ d ∈ S, d.length = 32) (hl : l.length < 2 ^ 40) : Calls Tryd.prog 57 #[v, u] w fun e w' => e = .returned (.bool (unlikeS l S)) ∧ Below w.heap.size w w' := by
  refine walk_enter Tryd.func57 rfl rfl rfl fun a0 F0 => ?_
  have M0 := Mem.new w
  refine wsl ?_
  refine sr (v := (.bool false)) F0 (run_as rfl rfl) rfl rfl rfl fun a1 F1 => ?_
  refine sn ?_
  clear F0
  refine wp_seq ?_
  refine wsl ?_
  refine sr (v := (.int .i64 0)) F1 (run_as rfl rfl) rfl rfl rfl fun a2 F2 => ?_
  refine sn ?_
  clear F1
  refine wp_block ?_
  refine wkLoop (fun m a w2 => ∃ i : Nat, i ≤ l.length ∧ m = l.length - i ∧ (List.range i).all (unS l S) = true ∧ Fr a 38 [(0, v), (1, u), (5, .int .i64 (i : Int))] ∧ Mem w [] w2) l.length ⟨0, Nat.zero_le _, rfl, rfl, F2.sub ⟨rfl, rfl, rfl, trivial⟩, M0⟩ ?_
  rintro m a0 w1 ⟨i, hi, rfl, hall, F0, M0⟩
  by_cases hlt : i < l.length
  · obtain ⟨x, hx⟩ : ∃ x, l[i]? = some x := ⟨l[i], by simp [hlt]⟩
    obtain ⟨p, hp⟩ : ∃ p, S[i]? = some p := ⟨S[i]'(by omega), List.getElem?_eq_getElem (by omega)⟩
    have hp32 := h32 p (List.mem_of_getElem? hp)
    refine wp_seq ?_
    refine wsl ?_
    refine mvS F0 rfl rfl rfl rfl rfl fun a1 F1 => ?_
    refine mvS F1 rfl rfl rfl rfl rfl fun a2 F2 => ?_
    refine sr F2 (run_lenS rfl (F2.ev 8 rfl) (hV.below M0.below) rfl Tryd.underlying23) rfl rfl rfl fun a3 F3 => ?_
    refine sr (v := (.bool true)) F3 (run_lss rfl (F3.ev 7 rfl) (F3.ev 9 rfl) (decide_eq_true (by omega))) rfl rfl rfl fun a4 F4 => ?_
    refine sn ?_
    clear F0 F1 F2 F3
    refine cts (F4.ev 10 rfl) ?_
    refine wp_seq ?_
    refine wp_block ?_
    refine wsl ?_
    refine sr (v := (.int .i64 0)) F4 (run_as rfl rfl) rfl rfl rfl fun a5 F5 => ?_
    refine sn ?_
    clear F4
    refine wp_block ?_
    refine wkLoop (fun m a w2 => ∃ k : Nat, k ≤ i ∧ m = i - k ∧ (List.range k).all (unB l S i) = true ∧ Fr a 38 [(0, v), (1, u), (5, .int .i64 (i : Int)), (6, .int .i64 (k : Int))] ∧ Mem w [] w2) i ⟨0, Nat.zero_le _, rfl, rfl, F5.sub ⟨rfl, rfl, rfl, rfl, trivial⟩, M0⟩ ?_
    rintro m0 a0 w1 ⟨k, hk, rfl, hin0, F0, M0⟩
    by_cases hki : k < i
    · obtain ⟨y, hy⟩ : ∃ y, l[k]? = some y := ⟨l[k]'(by omega), List.getElem?_eq_getElem (by omega)⟩
      obtain ⟨q, hq⟩ : ∃ q, S[k]? = some q := ⟨S[k]'(by omega), List.getElem?_eq_getElem (by omega)⟩
      have hq32 := h32 q (List.mem_of_getElem? hq)
      have hun : unB l S i k = !((p == q) && !(x == y)) := by unfold unB; rw [getD_of hp, getD_of hq, getD_of hx, getD_of hy]
      cases hpe : (p == q)
      · have hpq : (!((p == q) && !(x == y))) = true := by rw [hpe]; rfl
        refine wp_seq ?_
        refine wsl ?_
        refine mvS F0 rfl rfl rfl rfl rfl fun a1 F1 => ?_
        refine mvS F1 rfl rfl rfl rfl rfl fun a2 F2 => ?_
        refine sr (v := (.bool true)) F2 (run_lss rfl (F2.ev 13 rfl) (F2.ev 14 rfl) (decide_eq_true (by omega))) rfl rfl rfl fun a3 F3 => ?_
        refine sn ?_
        clear F0 F1 F2
        refine cts (F3.ev 15 rfl) ?_
        refine wp_seq ?_
        refine wp_block ?_
        refine wp_seq ?_
        obtain ⟨KL, hKL⟩ : ∃ KL, KL = [kval u, kval (.int .i64 (i : Int)), kval (slPtr u (i * 32)), kval (.agg ((dgC p).toArray)), kval u, kval (.int .i64 (k : Int)), kval (slPtr u (k * 32)), kval (.agg ((dgC q).toArray)), kval (.bool false), kval (.bool false), kval undef, kval undef, kval undef, kval undef, kval undef, kval undef, kval undef, kval undef, kval undef, kval (.bool false)] := ⟨_, rfl⟩
        have K0 := getK hKL 0
        have K1 := getK hKL 1
        have K2 := getK hKL 2
        have K3 := getK hKL 3
        have K4 := getK hKL 4
        have K5 := getK hKL 5
        have K6 := getK hKL 6
        have K7 := getK hKL 7
        have K8 := getK hKL 8
        have K9 := getK hKL 9
        have K10 := getK hKL 10
        have K11 := getK hKL 11
        have K12 := getK hKL 12
        have K13 := getK hKL 13
        have K14 := getK hKL 14
        have K15 := getK hKL 15
        have K16 := getK hKL 16
        have K17 := getK hKL 17
        have K18 := getK hKL 18
        have K19 := getK hKL 19
        clear hKL
        refine wp_region_kd 38 (by kernel_rfl) (by kernel_rfl) (by kernel_rfl) F3.size KL ?_ ?_
        · refine ⟨?_, ?_, ?_, ?_, ?_, ?_, ?_, ?_, ?_, ?_, ?_, ?_, ?_, ?_, ?_, ?_, ?_, ?_, ?_, ?_, trivial⟩
          · exact asksY rfl fun a W hS hh hd => giv_run (run_mv rfl (eval_tmp (hh 1 _ rfl (F3.at 1 rfl)))) K0
          · exact asksY rfl fun a W hS hh hd => giv_run (run_mv rfl (eval_tmp (hh 5 _ rfl (F3.at 5 rfl)))) K1
          · exact asksY rfl fun a W hS hh hd => giv_run (run_atP (i := i) rfl (eval_tmp (hd.vl 0 18 (by kernel_rfl) K0)) (eval_tmp (hd.vl 1 19 (by kernel_rfl) K1)) rfl (hU.below (M0.grow hS).below) (by omega) elDig.un (by kernel_rfl)) K2
          · exact asksY rfl fun a W hS hh hd => giv_run (run_ldPS (ys := dgC p) rfl (eval_tmp (hd.vl 2 20 (by kernel_rfl) K2)) (hU.below (M0.grow hS).below) (by omega) (fun j u hj => flat_at dgC_len hp j hj) (by kernel_rfl) (by kernel_rfl)) K3
          · exact asksY rfl fun a W hS hh hd => giv_run (run_mv rfl (eval_tmp (hh 1 _ rfl (F3.at 1 rfl)))) K4
          · exact asksY rfl fun a W hS hh hd => giv_run (run_mv rfl (eval_tmp (hh 6 _ rfl (F3.at 6 rfl)))) K5
          · exact asksY rfl fun a W hS hh hd => giv_run (run_atP (i := k) rfl (eval_tmp (hd.vl 4 22 (by kernel_rfl) K4)) (eval_tmp (hd.vl 5 23 (by kernel_rfl) K5)) rfl (hU.below (M0.grow hS).below) (by omega) elDig.un (by kernel_rfl)) K6
          · exact asksY rfl fun a W hS hh hd => giv_run (run_ldPS (ys := dgC q) rfl (eval_tmp (hd.vl 6 24 (by kernel_rfl) K6)) (hU.below (M0.grow hS).below) (by omega) (fun j u hj => flat_at dgC_len hq j hj) (by kernel_rfl) (by kernel_rfl)) K7
          · exact asksY rfl fun a W hS hh hd => giv_run (run_eqDg hp32 hq32 hpe rfl (eval_tmp (hd.vl 3 21 (by kernel_rfl) K3)) (eval_tmp (hd.vl 7 25 (by kernel_rfl) K7))) K8
          · exact asksY rfl fun a W hS hh hd => giv_run (run_mv rfl (eval_tmp (hd.vl 8 26 (by kernel_rfl) K8))) K9
          · exact asks_skip fun a W hS hh hd => ⟨unwanted_of (j := 9) (s := 27) (want := true) (by kernel_rfl) (hd.vl 9 27 (by kernel_rfl) K9), show kT KL 10 undef W by unfold kT; rw [K10]; rfl⟩
          · exact asks_skip fun a W hS hh hd => ⟨unwanted_of (j := 9) (s := 27) (want := true) (by kernel_rfl) (hd.vl 9 27 (by kernel_rfl) K9), show kT KL 11 undef W by unfold kT; rw [K11]; rfl⟩
          · exact asks_skip fun a W hS hh hd => ⟨unwanted_of (j := 9) (s := 27) (want := true) (by kernel_rfl) (hd.vl 9 27 (by kernel_rfl) K9), show kT KL 12 undef W by unfold kT; rw [K12]; rfl⟩
          · exact asks_skip fun a W hS hh hd => ⟨unwanted_of (j := 9) (s := 27) (want := true) (by kernel_rfl) (hd.vl 9 27 (by kernel_rfl) K9), show kT KL 13 undef W by unfold kT; rw [K13]; rfl⟩
          · exact asks_skip fun a W hS hh hd => ⟨unwanted_of (j := 9) (s := 27) (want := true) (by kernel_rfl) (hd.vl 9 27 (by kernel_rfl) K9), show kT KL 14 undef W by unfold kT; rw [K14]; rfl⟩
          · exact asks_skip fun a W hS hh hd => ⟨unwanted_of (j := 9) (s := 27) (want := true) (by kernel_rfl) (hd.vl 9 27 (by kernel_rfl) K9), show kT KL 15 undef W by unfold kT; rw [K15]; rfl⟩
          · exact asks_skip fun a W hS hh hd => ⟨unwanted_of (j := 9) (s := 27) (want := true) (by kernel_rfl) (hd.vl 9 27 (by kernel_rfl) K9), show kT KL 16 undef W by unfold kT; rw [K16]; rfl⟩
          · exact asks_skip fun a W hS hh hd => ⟨unwanted_of (j := 9) (s := 27) (want := true) (by kernel_rfl) (hd.vl 9 27 (by kernel_rfl) K9), show kT KL 17 undef W by unfold kT; rw [K17]; rfl⟩
          · exact asks_skip fun a W hS hh hd => ⟨unwanted_of (j := 9) (s := 27) (want := true) (by kernel_rfl) (hd.vl 9 27 (by kernel_rfl) K9), show kT KL 18 undef W by unfold kT; rw [K18]; rfl⟩
          · exact asksY rfl fun a W hS hh hd => giv_run (run_pick rfl (eval_tmp (hd.vl 9 27 (by kernel_rfl) K9)) (eval_tmp (hd.vl 18 36 (by kernel_rfl) K18)) rfl) K19
        · intro a4 w2 hb2 hK
          have e0 := hK.vl 0 18 (by kernel_rfl) K0
          have e1 := hK.vl 1 19 (by kernel_rfl) K1
          have e2 := hK.vl 2 20 (by kernel_rfl) K2
          have e3 := hK.vl 3 21 (by kernel_rfl) K3
          have e4 := hK.vl 4 22 (by kernel_rfl) K4
          have e5 := hK.vl 5 23 (by kernel_rfl) K5
          have e6 := hK.vl 6 24 (by kernel_rfl) K6
          have e7 := hK.vl 7 25 (by kernel_rfl) K7
          have e8 := hK.vl 8 26 (by kernel_rfl) K8
          have e9 := hK.vl 9 27 (by kernel_rfl) K9
          have e10 := hK.vl 10 28 (by kernel_rfl) K10
          have e11 := hK.vl 11 29 (by kernel_rfl) K11
          have e12 := hK.vl 12 30 (by kernel_rfl) K12
          have e13 := hK.vl 13 31 (by kernel_rfl) K13
          have e14 := hK.vl 14 32 (by kernel_rfl) K14
          have e15 := hK.vl 15 33 (by kernel_rfl) K15
          have e16 := hK.vl 16 34 (by kernel_rfl) K16
          have e17 := hK.vl 17 35 (by kernel_rfl) K17
          have e18 := hK.vl 18 36 (by kernel_rfl) K18
          have e19 := hK.vl 19 37 (by kernel_rfl) K19
          have F4 : Fr a4 38 [(0, v), (1, u), (5, (.int .i64 (i : Int))), (6, (.int .i64 (k : Int))), (13, (.int .i64 (k : Int))), (14, (.int .i64 (i : Int))), (15, (.bool true)), (37, (.bool false))] := (hK.fr F3 [_, _, _, _, _, _, _, _, _, _, _, _, _, _, _, _, _, _, _, _] ⟨e0, e1, e2, e3, e4, e5, e6, e7, e8, e9, e10, e11, e12, e13, e14, e15, e16, e17, e18, e19, trivial⟩).sub ⟨rfl, rfl, rfl, rfl, rfl, rfl, rfl, rfl, trivial⟩
          have M1 := M0.grow hb2
          clear hK K0 e0 K1 e1 K2 e2 K3 e3 K4 e4 K5 e5 K6 e6 K7 e7 K8 e8 K9 e9 K10 e10 K11 e11 K12 e12 K13 e13 K14 e14 K15 e15 K16 e16 K17 e17 K18 e18 K19 e19
          clear F3 M0
          refine nx ?_
          refine wp_cond_false (F4.ev 37 rfl) ?_
          refine wp_skip ?_
          refine bkEnd ?_
          refine nx ?_
          refine wp_region_lit ?_
          refine mvS F4 rfl rfl rfl rfl rfl fun a5 F5 => ?_
          refine sr F5 (run_add (r := ((k + 1 : Nat) : Int)) rfl (F5.ev 16 rfl) rfl (by rw [IntKind.wrap_i64]; omega)) rfl rfl rfl fun a6 F6 => ?_
          refine asS F6 rfl rfl rfl rfl rfl fun a7 F7 => ?_
          refine sn ?_
          clear F4 F5 F6
          exact ⟨_, by omega, k + 1, by omega, rfl, all_range_snoc hin0 (by rw [hun, hpq]), F7.sub ⟨rfl, rfl, rfl, rfl, trivial⟩, M1⟩
      · cases hxe : (x == y)
        · have hres : unlikeS l S = false := all_range_no hlt (all_range_no hki (by rw [hun, hpe, hxe]; rfl))
          refine wp_seq ?_
          refine wsl ?_
          refine mvS F0 rfl rfl rfl rfl rfl fun a1 F1 => ?_
          refine mvS F1 rfl rfl rfl rfl rfl fun a2 F2 => ?_
          refine sr (v := (.bool true)) F2 (run_lss rfl (F2.ev 13 rfl) (F2.ev 14 rfl) (decide_eq_true (by omega))) rfl rfl rfl fun a3 F3 => ?_
          refine sn ?_
          clear F0 F1 F2
          refine cts (F3.ev 15 rfl) ?_
          refine wp_seq ?_
          refine wp_block ?_
          refine wp_seq ?_
          obtain ⟨KL, hKL⟩ : ∃ KL, KL = [kval u, kval (.int .i64 (i : Int)), kval (slPtr u (i * 32)), kval (.agg ((dgC p).toArray)), kval u, kval (.int .i64 (k : Int)), kval (slPtr u (k * 32)), kval (.agg ((dgC q).toArray)), kval (.bool true), kval (.bool true), kval v, kval (.int .i64 (i : Int)), kval (slPtr v (i * 1)), kval (.string ⟨x.toArray⟩), kval v, kval (.int .i64 (k : Int)), kval (slPtr v (k * 1)), kval (.string ⟨y.toArray⟩), kval (.bool true), kval (.bool true)] := ⟨_, rfl⟩
          have K0 := getK hKL 0
          have K1 := getK hKL 1
          have K2 := getK hKL 2
          have K3 := getK hKL 3
          have K4 := getK hKL 4
          have K5 := getK hKL 5
          have K6 := getK hKL 6
          have K7 := getK hKL 7
          have K8 := getK hKL 8
          have K9 := getK hKL 9
          have K10 := getK hKL 10
          have K11 := getK hKL 11
          have K12 := getK hKL 12
          have K13 := getK hKL 13
          have K14 := getK hKL 14
          have K15 := getK hKL 15
          have K16 := getK hKL 16
          have K17 := getK hKL 17
          have K18 := getK hKL 18
          have K19 := getK hKL 19
          clear hKL
          refine wp_region_kd 38 (by kernel_rfl) (by kernel_rfl) (by kernel_rfl) F3.size KL ?_ ?_
          · refine ⟨?_, ?_, ?_, ?_, ?_, ?_, ?_, ?_, ?_, ?_, ?_, ?_, ?_, ?_, ?_, ?_, ?_, ?_, ?_, ?_, trivial⟩
            · exact asksY rfl fun a W hS hh hd => giv_run (run_mv rfl (eval_tmp (hh 1 _ rfl (F3.at 1 rfl)))) K0
            · exact asksY rfl fun a W hS hh hd => giv_run (run_mv rfl (eval_tmp (hh 5 _ rfl (F3.at 5 rfl)))) K1
            · exact asksY rfl fun a W hS hh hd => giv_run (run_atP (i := i) rfl (eval_tmp (hd.vl 0 18 (by kernel_rfl) K0)) (eval_tmp (hd.vl 1 19 (by kernel_rfl) K1)) rfl (hU.below (M0.grow hS).below) (by omega) elDig.un (by kernel_rfl)) K2
            · exact asksY rfl fun a W hS hh hd => giv_run (run_ldPS (ys := dgC p) rfl (eval_tmp (hd.vl 2 20 (by kernel_rfl) K2)) (hU.below (M0.grow hS).below) (by omega) (fun j u hj => flat_at dgC_len hp j hj) (by kernel_rfl) (by kernel_rfl)) K3
            · exact asksY rfl fun a W hS hh hd => giv_run (run_mv rfl (eval_tmp (hh 1 _ rfl (F3.at 1 rfl)))) K4
            · exact asksY rfl fun a W hS hh hd => giv_run (run_mv rfl (eval_tmp (hh 6 _ rfl (F3.at 6 rfl)))) K5
            · exact asksY rfl fun a W hS hh hd => giv_run (run_atP (i := k) rfl (eval_tmp (hd.vl 4 22 (by kernel_rfl) K4)) (eval_tmp (hd.vl 5 23 (by kernel_rfl) K5)) rfl (hU.below (M0.grow hS).below) (by omega) elDig.un (by kernel_rfl)) K6
            · exact asksY rfl fun a W hS hh hd => giv_run (run_ldPS (ys := dgC q) rfl (eval_tmp (hd.vl 6 24 (by kernel_rfl) K6)) (hU.below (M0.grow hS).below) (by omega) (fun j u hj => flat_at dgC_len hq j hj) (by kernel_rfl) (by kernel_rfl)) K7
            · exact asksY rfl fun a W hS hh hd => giv_run (run_eqDg hp32 hq32 hpe rfl (eval_tmp (hd.vl 3 21 (by kernel_rfl) K3)) (eval_tmp (hd.vl 7 25 (by kernel_rfl) K7))) K8
            · exact asksY rfl fun a W hS hh hd => giv_run (run_mv rfl (eval_tmp (hd.vl 8 26 (by kernel_rfl) K8))) K9
            · refine asks_mk fun a W hS hh hd => ⟨wanted_of (j := 9) (s := 27) (by kernel_rfl) (hd.vl 9 27 (by kernel_rfl) K9), ?_⟩
              exact giv_run (run_mv rfl (eval_tmp (hh 0 _ rfl (F3.at 0 rfl)))) K10
            · refine asks_mk fun a W hS hh hd => ⟨wanted_of (j := 9) (s := 27) (by kernel_rfl) (hd.vl 9 27 (by kernel_rfl) K9), ?_⟩
              exact giv_run (run_mv rfl (eval_tmp (hh 5 _ rfl (F3.at 5 rfl)))) K11
            · refine asks_mk fun a W hS hh hd => ⟨wanted_of (j := 9) (s := 27) (by kernel_rfl) (hd.vl 9 27 (by kernel_rfl) K9), ?_⟩
              exact giv_run (run_atP (i := i) rfl (eval_tmp (hd.vl 10 28 (by kernel_rfl) K10)) (eval_tmp (hd.vl 11 29 (by kernel_rfl) K11)) rfl (hV.below (M0.grow hS).below) (by omega) elStr.un (by kernel_rfl)) K12
            · refine asks_mk fun a W hS hh hd => ⟨wanted_of (j := 9) (s := 27) (by kernel_rfl) (hd.vl 9 27 (by kernel_rfl) K9), ?_⟩
              exact giv_run (run_ldP rfl (eval_tmp (hd.vl 12 30 (by kernel_rfl) K12)) (hV.below (M0.grow hS).below) (map_at hx) (by kernel_rfl)) K13
            · refine asks_mk fun a W hS hh hd => ⟨wanted_of (j := 9) (s := 27) (by kernel_rfl) (hd.vl 9 27 (by kernel_rfl) K9), ?_⟩
              exact giv_run (run_mv rfl (eval_tmp (hh 0 _ rfl (F3.at 0 rfl)))) K14
            · refine asks_mk fun a W hS hh hd => ⟨wanted_of (j := 9) (s := 27) (by kernel_rfl) (hd.vl 9 27 (by kernel_rfl) K9), ?_⟩
              exact giv_run (run_mv rfl (eval_tmp (hh 6 _ rfl (F3.at 6 rfl)))) K15
            · refine asks_mk fun a W hS hh hd => ⟨wanted_of (j := 9) (s := 27) (by kernel_rfl) (hd.vl 9 27 (by kernel_rfl) K9), ?_⟩
              exact giv_run (run_atP (i := k) rfl (eval_tmp (hd.vl 14 32 (by kernel_rfl) K14)) (eval_tmp (hd.vl 15 33 (by kernel_rfl) K15)) rfl (hV.below (M0.grow hS).below) (by omega) elStr.un (by kernel_rfl)) K16
            · refine asks_mk fun a W hS hh hd => ⟨wanted_of (j := 9) (s := 27) (by kernel_rfl) (hd.vl 9 27 (by kernel_rfl) K9), ?_⟩
              exact giv_run (run_ldP rfl (eval_tmp (hd.vl 16 34 (by kernel_rfl) K16)) (hV.below (M0.grow hS).below) (map_at hy) (by kernel_rfl)) K17
            · refine asks_mk fun a W hS hh hd => ⟨wanted_of (j := 9) (s := 27) (by kernel_rfl) (hd.vl 9 27 (by kernel_rfl) K9), ?_⟩
              exact giv_run (run_nes rfl (eval_tmp (hd.vl 13 31 (by kernel_rfl) K13)) (eval_tmp (hd.vl 17 35 (by kernel_rfl) K17)) (by rw [hxe]; rfl)) K18
            · exact asksY rfl fun a W hS hh hd => giv_run (run_pick rfl (eval_tmp (hd.vl 9 27 (by kernel_rfl) K9)) (eval_tmp (hd.vl 18 36 (by kernel_rfl) K18)) rfl) K19
          · intro a4 w2 hb2 hK
            have e0 := hK.vl 0 18 (by kernel_rfl) K0
            have e1 := hK.vl 1 19 (by kernel_rfl) K1
            have e2 := hK.vl 2 20 (by kernel_rfl) K2
            have e3 := hK.vl 3 21 (by kernel_rfl) K3
            have e4 := hK.vl 4 22 (by kernel_rfl) K4
            have e5 := hK.vl 5 23 (by kernel_rfl) K5
            have e6 := hK.vl 6 24 (by kernel_rfl) K6
            have e7 := hK.vl 7 25 (by kernel_rfl) K7
            have e8 := hK.vl 8 26 (by kernel_rfl) K8
            have e9 := hK.vl 9 27 (by kernel_rfl) K9
            have e10 := hK.vl 10 28 (by kernel_rfl) K10
            have e11 := hK.vl 11 29 (by kernel_rfl) K11
            have e12 := hK.vl 12 30 (by kernel_rfl) K12
            have e13 := hK.vl 13 31 (by kernel_rfl) K13
            have e14 := hK.vl 14 32 (by kernel_rfl) K14
            have e15 := hK.vl 15 33 (by kernel_rfl) K15
            have e16 := hK.vl 16 34 (by kernel_rfl) K16
            have e17 := hK.vl 17 35 (by kernel_rfl) K17
            have e18 := hK.vl 18 36 (by kernel_rfl) K18
            have e19 := hK.vl 19 37 (by kernel_rfl) K19
            have F4 : Fr a4 38 [(0, v), (1, u), (5, (.int .i64 (i : Int))), (6, (.int .i64 (k : Int))), (13, (.int .i64 (k : Int))), (14, (.int .i64 (i : Int))), (15, (.bool true)), (37, (.bool true))] := (hK.fr F3 [_, _, _, _, _, _, _, _, _, _, _, _, _, _, _, _, _, _, _, _] ⟨e0, e1, e2, e3, e4, e5, e6, e7, e8, e9, e10, e11, e12, e13, e14, e15, e16, e17, e18, e19, trivial⟩).sub ⟨rfl, rfl, rfl, rfl, rfl, rfl, rfl, rfl, trivial⟩
            have M1 := M0.grow hb2
            clear hK K0 e0 K1 e1 K2 e2 K3 e3 K4 e4 K5 e5 K6 e6 K7 e7 K8 e8 K9 e9 K10 e10 K11 e11 K12 e12 K13 e13 K14 e14 K15 e15 K16 e16 K17 e17 K18 e18 K19 e19
            clear F3 M0
            refine nx ?_
            refine wp_cond_true (F4.ev 37 rfl) ?_
            refine wsl ?_
            refine sr (v := (.bool false)) F4 (run_as rfl rfl) rfl rfl rfl fun a5 F5 => ?_
            refine sn ?_
            clear F4
            refine wp_ret ?_
            refine bkRet ?_
            refine nxRet ?_
            refine nxRet ?_
            refine bkRet ?_
            refine bkRet ?_
            refine nxRet ?_
            refine nxRet ?_
            refine bkRet ?_
            refine nxRet ?_
            exact ret1 F5 rfl rfl ⟨by rw [hres], M1.below⟩
        · have hpq : (!((p == q) && !(x == y))) = true := by rw [hpe, hxe]; rfl
          refine wp_seq ?_
          refine wsl ?_
          refine mvS F0 rfl rfl rfl rfl rfl fun a1 F1 => ?_
          refine mvS F1 rfl rfl rfl rfl rfl fun a2 F2 => ?_
          refine sr (v := (.bool true)) F2 (run_lss rfl (F2.ev 13 rfl) (F2.ev 14 rfl) (decide_eq_true (by omega))) rfl rfl rfl fun a3 F3 => ?_
          refine sn ?_
          clear F0 F1 F2
          refine cts (F3.ev 15 rfl) ?_
          refine wp_seq ?_
          refine wp_block ?_
          refine wp_seq ?_
          obtain ⟨KL, hKL⟩ : ∃ KL, KL = [kval u, kval (.int .i64 (i : Int)), kval (slPtr u (i * 32)), kval (.agg ((dgC p).toArray)), kval u, kval (.int .i64 (k : Int)), kval (slPtr u (k * 32)), kval (.agg ((dgC q).toArray)), kval (.bool true), kval (.bool true), kval v, kval (.int .i64 (i : Int)), kval (slPtr v (i * 1)), kval (.string ⟨x.toArray⟩), kval v, kval (.int .i64 (k : Int)), kval (slPtr v (k * 1)), kval (.string ⟨y.toArray⟩), kval (.bool false), kval (.bool false)] := ⟨_, rfl⟩
          have K0 := getK hKL 0
          have K1 := getK hKL 1
          have K2 := getK hKL 2
          have K3 := getK hKL 3
          have K4 := getK hKL 4
          have K5 := getK hKL 5
          have K6 := getK hKL 6
          have K7 := getK hKL 7
          have K8 := getK hKL 8
          have K9 := getK hKL 9
          have K10 := getK hKL 10
          have K11 := getK hKL 11
          have K12 := getK hKL 12
          have K13 := getK hKL 13
          have K14 := getK hKL 14
          have K15 := getK hKL 15
          have K16 := getK hKL 16
          have K17 := getK hKL 17
          have K18 := getK hKL 18
          have K19 := getK hKL 19
          clear hKL
          refine wp_region_kd 38 (by kernel_rfl) (by kernel_rfl) (by kernel_rfl) F3.size KL ?_ ?_
          · refine ⟨?_, ?_, ?_, ?_, ?_, ?_, ?_, ?_, ?_, ?_, ?_, ?_, ?_, ?_, ?_, ?_, ?_, ?_, ?_, ?_, trivial⟩
            · exact asksY rfl fun a W hS hh hd => giv_run (run_mv rfl (eval_tmp (hh 1 _ rfl (F3.at 1 rfl)))) K0
            · exact asksY rfl fun a W hS hh hd => giv_run (run_mv rfl (eval_tmp (hh 5 _ rfl (F3.at 5 rfl)))) K1
            · exact asksY rfl fun a W hS hh hd => giv_run (run_atP (i := i) rfl (eval_tmp (hd.vl 0 18 (by kernel_rfl) K0)) (eval_tmp (hd.vl 1 19 (by kernel_rfl) K1)) rfl (hU.below (M0.grow hS).below) (by omega) elDig.un (by kernel_rfl)) K2
            · exact asksY rfl fun a W hS hh hd => giv_run (run_ldPS (ys := dgC p) rfl (eval_tmp (hd.vl 2 20 (by kernel_rfl) K2)) (hU.below (M0.grow hS).below) (by omega) (fun j u hj => flat_at dgC_len hp j hj) (by kernel_rfl) (by kernel_rfl)) K3
            · exact asksY rfl fun a W hS hh hd => giv_run (run_mv rfl (eval_tmp (hh 1 _ rfl (F3.at 1 rfl)))) K4
            · exact asksY rfl fun a W hS hh hd => giv_run (run_mv rfl (eval_tmp (hh 6 _ rfl (F3.at 6 rfl)))) K5
            · exact asksY rfl fun a W hS hh hd => giv_run (run_atP (i := k) rfl (eval_tmp (hd.vl 4 22 (by kernel_rfl) K4)) (eval_tmp (hd.vl 5 23 (by kernel_rfl) K5)) rfl (hU.below (M0.grow hS).below) (by omega) elDig.un (by kernel_rfl)) K6
            · exact asksY rfl fun a W hS hh hd => giv_run (run_ldPS (ys := dgC q) rfl (eval_tmp (hd.vl 6 24 (by kernel_rfl) K6)) (hU.below (M0.grow hS).below) (by omega) (fun j u hj => flat_at dgC_len hq j hj) (by kernel_rfl) (by kernel_rfl)) K7
            · exact asksY rfl fun a W hS hh hd => giv_run (run_eqDg hp32 hq32 hpe rfl (eval_tmp (hd.vl 3 21 (by kernel_rfl) K3)) (eval_tmp (hd.vl 7 25 (by kernel_rfl) K7))) K8
            · exact asksY rfl fun a W hS hh hd => giv_run (run_mv rfl (eval_tmp (hd.vl 8 26 (by kernel_rfl) K8))) K9
            · refine asks_mk fun a W hS hh hd => ⟨wanted_of (j := 9) (s := 27) (by kernel_rfl) (hd.vl 9 27 (by kernel_rfl) K9), ?_⟩
              exact giv_run (run_mv rfl (eval_tmp (hh 0 _ rfl (F3.at 0 rfl)))) K10
            · refine asks_mk fun a W hS hh hd => ⟨wanted_of (j := 9) (s := 27) (by kernel_rfl) (hd.vl 9 27 (by kernel_rfl) K9), ?_⟩
              exact giv_run (run_mv rfl (eval_tmp (hh 5 _ rfl (F3.at 5 rfl)))) K11
            · refine asks_mk fun a W hS hh hd => ⟨wanted_of (j := 9) (s := 27) (by kernel_rfl) (hd.vl 9 27 (by kernel_rfl) K9), ?_⟩
              exact giv_run (run_atP (i := i) rfl (eval_tmp (hd.vl 10 28 (by kernel_rfl) K10)) (eval_tmp (hd.vl 11 29 (by kernel_rfl) K11)) rfl (hV.below (M0.grow hS).below) (by omega) elStr.un (by kernel_rfl)) K12
            · refine asks_mk fun a W hS hh hd => ⟨wanted_of (j := 9) (s := 27) (by kernel_rfl) (hd.vl 9 27 (by kernel_rfl) K9), ?_⟩
              exact giv_run (run_ldP rfl (eval_tmp (hd.vl 12 30 (by kernel_rfl) K12)) (hV.below (M0.grow hS).below) (map_at hx) (by kernel_rfl)) K13
            · refine asks_mk fun a W hS hh hd => ⟨wanted_of (j := 9) (s := 27) (by kernel_rfl) (hd.vl 9 27 (by kernel_rfl) K9), ?_⟩
              exact giv_run (run_mv rfl (eval_tmp (hh 0 _ rfl (F3.at 0 rfl)))) K14
            · refine asks_mk fun a W hS hh hd => ⟨wanted_of (j := 9) (s := 27) (by kernel_rfl) (hd.vl 9 27 (by kernel_rfl) K9), ?_⟩
              exact giv_run (run_mv rfl (eval_tmp (hh 6 _ rfl (F3.at 6 rfl)))) K15
            · refine asks_mk fun a W hS hh hd => ⟨wanted_of (j := 9) (s := 27) (by kernel_rfl) (hd.vl 9 27 (by kernel_rfl) K9), ?_⟩
              exact giv_run (run_atP (i := k) rfl (eval_tmp (hd.vl 14 32 (by kernel_rfl) K14)) (eval_tmp (hd.vl 15 33 (by kernel_rfl) K15)) rfl (hV.below (M0.grow hS).below) (by omega) elStr.un (by kernel_rfl)) K16
            · refine asks_mk fun a W hS hh hd => ⟨wanted_of (j := 9) (s := 27) (by kernel_rfl) (hd.vl 9 27 (by kernel_rfl) K9), ?_⟩
              exact giv_run (run_ldP rfl (eval_tmp (hd.vl 16 34 (by kernel_rfl) K16)) (hV.below (M0.grow hS).below) (map_at hy) (by kernel_rfl)) K17
            · refine asks_mk fun a W hS hh hd => ⟨wanted_of (j := 9) (s := 27) (by kernel_rfl) (hd.vl 9 27 (by kernel_rfl) K9), ?_⟩
              exact giv_run (run_nes rfl (eval_tmp (hd.vl 13 31 (by kernel_rfl) K13)) (eval_tmp (hd.vl 17 35 (by kernel_rfl) K17)) (by rw [hxe]; rfl)) K18
            · exact asksY rfl fun a W hS hh hd => giv_run (run_pick rfl (eval_tmp (hd.vl 9 27 (by kernel_rfl) K9)) (eval_tmp (hd.vl 18 36 (by kernel_rfl) K18)) rfl) K19
          · intro a4 w2 hb2 hK
            have e0 := hK.vl 0 18 (by kernel_rfl) K0
            have e1 := hK.vl 1 19 (by kernel_rfl) K1
            have e2 := hK.vl 2 20 (by kernel_rfl) K2
            have e3 := hK.vl 3 21 (by kernel_rfl) K3
            have e4 := hK.vl 4 22 (by kernel_rfl) K4
            have e5 := hK.vl 5 23 (by kernel_rfl) K5
            have e6 := hK.vl 6 24 (by kernel_rfl) K6
            have e7 := hK.vl 7 25 (by kernel_rfl) K7
            have e8 := hK.vl 8 26 (by kernel_rfl) K8
            have e9 := hK.vl 9 27 (by kernel_rfl) K9
            have e10 := hK.vl 10 28 (by kernel_rfl) K10
            have e11 := hK.vl 11 29 (by kernel_rfl) K11
            have e12 := hK.vl 12 30 (by kernel_rfl) K12
            have e13 := hK.vl 13 31 (by kernel_rfl) K13
            have e14 := hK.vl 14 32 (by kernel_rfl) K14
            have e15 := hK.vl 15 33 (by kernel_rfl) K15
            have e16 := hK.vl 16 34 (by kernel_rfl) K16
            have e17 := hK.vl 17 35 (by kernel_rfl) K17
            have e18 := hK.vl 18 36 (by kernel_rfl) K18
            have e19 := hK.vl 19 37 (by kernel_rfl) K19
            have F4 : Fr a4 38 [(0, v), (1, u), (5, (.int .i64 (i : Int))), (6, (.int .i64 (k : Int))), (13, (.int .i64 (k : Int))), (14, (.int .i64 (i : Int))), (15, (.bool true)), (37, (.bool false))] := (hK.fr F3 [_, _, _, _, _, _, _, _, _, _, _, _, _, _, _, _, _, _, _, _] ⟨e0, e1, e2, e3, e4, e5, e6, e7, e8, e9, e10, e11, e12, e13, e14, e15, e16, e17, e18, e19, trivial⟩).sub ⟨rfl, rfl, rfl, rfl, rfl, rfl, rfl, rfl, trivial⟩
            have M1 := M0.grow hb2
            clear hK K0 e0 K1 e1 K2 e2 K3 e3 K4 e4 K5 e5 K6 e6 K7 e7 K8 e8 K9 e9 K10 e10 K11 e11 K12 e12 K13 e13 K14 e14 K15 e15 K16 e16 K17 e17 K18 e18 K19 e19
            clear F3 M0
            refine nx ?_
            refine wp_cond_false (F4.ev 37 rfl) ?_
            refine wp_skip ?_
            refine bkEnd ?_
            refine nx ?_
            refine wp_region_lit ?_
            refine mvS F4 rfl rfl rfl rfl rfl fun a5 F5 => ?_
            refine sr F5 (run_add (r := ((k + 1 : Nat) : Int)) rfl (F5.ev 16 rfl) rfl (by rw [IntKind.wrap_i64]; omega)) rfl rfl rfl fun a6 F6 => ?_
            refine asS F6 rfl rfl rfl rfl rfl fun a7 F7 => ?_
            refine sn ?_
            clear F4 F5 F6
            exact ⟨_, by omega, k + 1, by omega, rfl, all_range_snoc hin0 (by rw [hun, hpq]), F7.sub ⟨rfl, rfl, rfl, rfl, trivial⟩, M1⟩
    · have hke : k = i := by omega
      have hin : unS l S i = true := by unfold unS; rw [← hke]; rw [hke] at hin0 ⊢; exact hin0
      refine wp_seq ?_
      refine wsl ?_
      refine mvS F0 rfl rfl rfl rfl rfl fun a1 F1 => ?_
      refine mvS F1 rfl rfl rfl rfl rfl fun a2 F2 => ?_
      refine sr (v := (.bool false)) F2 (run_lss rfl (F2.ev 13 rfl) (F2.ev 14 rfl) (decide_eq_false (by omega))) rfl rfl rfl fun a3 F3 => ?_
      refine sn ?_
      clear F0 F1 F2
      refine wp_cond_false (F3.ev 15 rfl) ?_
      refine wp_exit ?_
      refine nxExit ?_
      refine nxExit ?_
      refine bkHere ?_
      refine bkEnd ?_
      refine nx ?_
      refine wp_region_lit ?_
      refine mvS F3 rfl rfl rfl rfl rfl fun a4 F4 => ?_
      refine sr F4 (run_add (r := ((i + 1 : Nat) : Int)) rfl (F4.ev 11 rfl) rfl (by rw [IntKind.wrap_i64]; omega)) rfl rfl rfl fun a5 F5 => ?_
      refine asS F5 rfl rfl rfl rfl rfl fun a6 F6 => ?_
      refine sn ?_
      clear F3 F4 F5
      exact ⟨_, by omega, i + 1, by omega, rfl, all_range_snoc hall hin, F6.sub ⟨rfl, rfl, rfl, trivial⟩, M0⟩
  · have hie : i = l.length := by omega
    have hres : unlikeS l S = true := by unfold unlikeS; rw [← hie]; exact hall
    refine wp_seq ?_
    refine wsl ?_
    refine mvS F0 rfl rfl rfl rfl rfl fun a1 F1 => ?_
    refine mvS F1 rfl rfl rfl rfl rfl fun a2 F2 => ?_
    refine sr F2 (run_lenS rfl (F2.ev 8 rfl) (hV.below M0.below) rfl Tryd.underlying23) rfl rfl rfl fun a3 F3 => ?_
    refine sr (v := (.bool false)) F3 (run_lss rfl (F3.ev 7 rfl) (F3.ev 9 rfl) (decide_eq_false (by omega))) rfl rfl rfl fun a4 F4 => ?_
    refine sn ?_
    clear F0 F1 F2 F3
    refine wp_cond_false (F4.ev 10 rfl) ?_
    refine wp_exit ?_
    refine nxExit ?_
    refine nxExit ?_
    refine bkHere ?_
    refine nx ?_
    refine wsl ?_
    refine sr (v := (.bool true)) F4 (run_as rfl rfl) rfl rfl rfl fun a5 F5 => ?_
    refine sn ?_
    clear F4
    refine wp_ret ?_
    exact ret1 F5 rfl rfl ⟨by rw [hres], M0.below⟩
set_option maxRecDepth 100000 in
set_option maxHeartbeats 1000000 in
theorem apart_any (k : List UInt8) (l : List (List UInt8)) (v : Value) (w : World) (hLk : k.length = 32) (hV : Sl w v 1 l.length (l.map tx)) (hl : l.length < 2 ^ 40) (hlx : ∀ x ∈ l, x.length < 2 ^ 40) : Calls Tryd.prog 27 #[.agg (cells8 k), v] w fun e w' => e = .returned (.bool (unlikeS l (l.map (keyedS k)))) ∧ Below w.heap.size w w' := by
  refine walk_enter Tryd.func27 rfl rfl rfl fun a0 F0 => ?_
  have M0 := Mem.new w
  refine wsl ?_
  refine sqNew (cs := (cells8 k)) (t := 50) F0 M0 (wantedS rfl) (run_box rfl (F0.ev 0 rfl)) rfl (by decide) fun g0 a1 w1 hgg0 hb1 F1 M1 => ?_
  refine sr (v := (.bool false)) F1 (run_as rfl rfl) rfl rfl rfl fun a2 F2 => ?_
  refine sn ?_
  clear F0 F1 M0
  refine wsl ?_
  refine sr (v := (.slice none 0 0)) F2 (run_as rfl rfl) rfl rfl rfl fun a3 F3 => ?_
  refine sn ?_
  clear F2
  refine wp_seq ?_
  refine wsl ?_
  refine sr (v := (.int .i64 0)) F3 (run_as rfl rfl) rfl rfl rfl fun a4 F4 => ?_
  refine sn ?_
  clear F3
  refine wp_block ?_
  refine wkLoop (fun m a w2 => ∃ (i : Nat) (v5 : Value), i ≤ l.length ∧ m = l.length - i ∧ OwnR w [(g0, isB 50 (cells8 k))] w2 53 32 v5 i (((l.take i).map (keyedS k)).flatMap dgC) ∧ Fr a 26 [(1, v), (2, .pointer (some ⟨g0, 0, none⟩)), (5, v5), (6, .int .i64 (i : Int))] ∧ Mem w [(g0, isB 50 (cells8 k))] w2) l.length ⟨0, _, Nat.zero_le _, rfl, OwnR.nil w w1 _ 53 32, F4.sub ⟨rfl, rfl, rfl, rfl, trivial⟩, M1⟩ ?_
  rintro m a0 w1 ⟨i, v5, hi, rfl, hO0, F0, M0⟩
  by_cases hlt : i < l.length
  · obtain ⟨x, hx⟩ : ∃ x, l[i]? = some x := ⟨l[i], by simp [hlt]⟩
    have hxl := hlx x (List.mem_of_getElem? hx)
    have hxs : ((l.take (i + 1)).map (keyedS k)).flatMap dgC = ((l.take i).map (keyedS k)).flatMap dgC ++ dgC (keyedS k x) := by rw [map_snoc2 (keyedS k) l i hx, List.flatMap_append]; simp
    generalize ((l.take i).map (keyedS k)).flatMap dgC = xs at hO0 hxs
    refine wp_seq ?_
    refine wsl ?_
    refine mvS F0 rfl rfl rfl rfl rfl fun a1 F1 => ?_
    refine mvS F1 rfl rfl rfl rfl rfl fun a2 F2 => ?_
    refine sr F2 (run_lenS rfl (F2.ev 8 rfl) (hV.below M0.below) rfl Tryd.underlying23) rfl rfl rfl fun a3 F3 => ?_
    refine sr (v := (.bool true)) F3 (run_lss rfl (F3.ev 7 rfl) (F3.ev 9 rfl) (decide_eq_true (by omega))) rfl rfl rfl fun a4 F4 => ?_
    refine sn ?_
    clear F0 F1 F2 F3
    refine cts (F4.ev 10 rfl) ?_
    refine wp_seq ?_
    refine wp_block ?_
    obtain ⟨KL, hKL⟩ : ∃ KL, KL = [kval v5, kval (.agg (cells8 k)), kval v, kval (.int .i64 (i : Int)), kval (slPtr v (i * 1)), kval (.string ⟨x.toArray⟩), kstrs [x], kval (.agg (cells8 (keyedS k x))), krow w1.heap.size 53 (cells8 (keyedS k x)) 1] := ⟨_, rfl⟩
    have K0 := getK hKL 0
    have K1 := getK hKL 1
    have K2 := getK hKL 2
    have K3 := getK hKL 3
    have K4 := getK hKL 4
    have K5 := getK hKL 5
    have K6 := getK hKL 6
    have K7 := getK hKL 7
    have K8 := getK hKL 8
    have HKL : KL.length ≤ 9 := by rw [hKL]; exact Nat.le_refl _
    clear hKL
    refine wp_region_kdTail2 26 9 (by kernel_rfl) (by kernel_rfl) (by kernel_rfl) (by kernel_rfl) F4.size KL HKL ?_ ?_
    · refine ⟨?_, ?_, ?_, ?_, ?_, ?_, ?_, ?_, ?_, trivial⟩
      · exact asksHY rfl fun a W hS hh hd => giv_run (run_mv rfl (eval_tmp (hh 5 _ rfl (F4.at 5 rfl)))) K0
      · exact asksHY rfl fun a W hS hh hd => giv_run (run_ldB rfl (eval_tmp (hh 2 _ rfl (F4.at 2 rfl))) ((M0.grow hS).at 0 rfl) Tryd.underlying50 rfl sz32k (szOf hLk)) K1
      · exact asksHY rfl fun a W hS hh hd => giv_run (run_mv rfl (eval_tmp (hh 1 _ rfl (F4.at 1 rfl)))) K2
      · exact asksHY rfl fun a W hS hh hd => giv_run (run_mv rfl (eval_tmp (hh 6 _ rfl (F4.at 6 rfl)))) K3
      · exact asksHY rfl fun a W hS hh hd => giv_run (run_atP (i := i) rfl (eval_tmp (hd.vl 2 15 (by kernel_rfl) K2)) (eval_tmp (hd.vl 3 16 (by kernel_rfl) K3)) rfl (hV.below (M0.grow hS).below) (by omega) elStr.un (by kernel_rfl)) K4
      · exact asksHY rfl fun a W hS hh hd => giv_run (run_ldP rfl (eval_tmp (hd.vl 4 17 (by kernel_rfl) K4)) (hV.below (M0.grow hS).below) (map_at hx) (by kernel_rfl)) K5
      · exact asksHY rfl fun a W hS hh hd => giv_strs [x] 9 (run_strs1 rfl (eval_tmp (hd.vl 5 18 (by kernel_rfl) K5))) K6
      · refine asksH_mk fun a W hS hh hd => ⟨wanted_yes rfl, ?_⟩
        obtain ⟨v6, e6, s6⟩ := hd.strs (j := 6) (s := 19) (by kernel_rfl) K6
        exact giv_call (run_call rfl Tryd.func25 (by kernel_rfl) rfl (mapE2 (eval_tmp (hd.vl 1 14 (by kernel_rfl) K1)) (eval_tmp e6))) (rkeyed1 k x _ W hLk s6 (by first | omega | decide | (simp; done) | (simp; omega))) K7
      · exact asksHY rfl fun a W hS hh hd => giv_row hS.size 53 (cells8 (keyedS k x)) 1 (run_digs1 rfl (eval_tmp (hd.vl 7 20 (by kernel_rfl) K7)) (keyedS_len _ _)) K8
    · intro a5 w2 hb2 hK
      have e0 := hK.hvl 0 13 rfl (by kernel_rfl) K0
      have e1 := hK.hvl 1 14 rfl (by kernel_rfl) K1
      have e2 := hK.hvl 2 15 rfl (by kernel_rfl) K2
      have e3 := hK.hvl 3 16 rfl (by kernel_rfl) K3
      have e4 := hK.hvl 4 17 rfl (by kernel_rfl) K4
      have e5 := hK.hvl 5 18 rfl (by kernel_rfl) K5
      obtain ⟨v1, e6, hsv1⟩ := hK.hget (i := 6) (s := 19) rfl (by kernel_rfl)
      rw [K6] at hsv1
      have e7 := hK.hvl 7 20 rfl (by kernel_rfl) K7
      obtain ⟨v2, e8, hpv2⟩ := hK.hget (i := 8) (s := 21) rfl (by kernel_rfl)
      rw [K8] at hpv2
      obtain ⟨g3, hgg3, rfl, hBg3⟩ := hpv2
      have F5 : Fr a5 26 [(1, v), (2, (.pointer (some ⟨g0, 0, none⟩))), (5, v5), (6, (.int .i64 (i : Int))), (7, (.int .i64 (i : Int))), (8, v), (9, (.int .i64 (l.length : Int))), (10, (.bool true)), (13, v5), (21, (.slice (some ⟨g3, 0, none⟩) 1 1))] := (hK.hfr F4 [_, _, _, _, _, _, _, _, _] ⟨e0, e1, e2, e3, e4, e5, e6, e7, e8, trivial⟩).sub ⟨rfl, rfl, rfl, rfl, rfl, rfl, rfl, rfl, rfl, rfl, trivial⟩
      have M1 := M0.add hb2 hgg3 hBg3
      have hO1 := hO0.add (S := isB 53 (cells8 (keyedS k x))) hb2 hgg3
      clear hK K0 e0 K1 e1 K2 e2 K3 e3 K4 e4 K5 e5 K6 e6 K7 e7 K8 e8 HKL
      simp only [List.drop_succ_cons, List.drop_zero]
      refine sqAppend (news := (dgC (keyedS k x))) elDig F5 M1 hO1 rfl rfl (F5.ev 13 rfl) (F5.ev 21 rfl) (dgC_len1 _) (blkNewsD (keyedS_len _ _) (M1.at 0 rfl)) (dgC_one _) (by unfold maxLen; omega) (by omega) rfl (by decide) fun v4 a6 w3 hO2 M2 hnilv4 F6 => ?_
      refine asS F6 rfl rfl rfl rfl rfl fun a7 F7 => ?_
      refine sqEnd ?_
      clear F4 F5 F6 M0 M1
      refine bkEnd ?_
      refine nx ?_
      refine wp_region_lit ?_
      refine mvS F7 rfl rfl rfl rfl rfl fun a8 F8 => ?_
      refine sr F8 (run_add (r := ((i + 1 : Nat) : Int)) rfl (F8.ev 11 rfl) rfl (by rw [IntKind.wrap_i64]; omega)) rfl rfl rfl fun a9 F9 => ?_
      refine asS F9 rfl rfl rfl rfl rfl fun a10 F10 => ?_
      refine sn ?_
      clear F7 F8 F9
      exact ⟨_, by omega, i + 1, v4, by omega, rfl, by rw [hxs]; exact hO2.sub (.cons _ (.cons_cons _ .slnil)), F10.sub ⟨rfl, rfl, rfl, rfl, trivial⟩, M2.sub (.cons _ (.cons_cons _ .slnil))⟩
  · have hie : i = l.length := by omega
    refine wp_seq ?_
    refine wsl ?_
    refine mvS F0 rfl rfl rfl rfl rfl fun a1 F1 => ?_
    refine mvS F1 rfl rfl rfl rfl rfl fun a2 F2 => ?_
    refine sr F2 (run_lenS rfl (F2.ev 8 rfl) (hV.below M0.below) rfl Tryd.underlying23) rfl rfl rfl fun a3 F3 => ?_
    refine sr (v := (.bool false)) F3 (run_lss rfl (F3.ev 7 rfl) (F3.ev 9 rfl) (decide_eq_false (by omega))) rfl rfl rfl fun a4 F4 => ?_
    refine sn ?_
    clear F0 F1 F2 F3
    refine wp_cond_false (F4.ev 10 rfl) ?_
    refine wp_exit ?_
    refine nxExit ?_
    refine nxExit ?_
    refine bkHere ?_
    refine nx ?_
    refine wsl ?_
    refine mvS F4 rfl rfl rfl rfl rfl fun a5 F5 => ?_
    refine mvS F5 rfl rfl rfl rfl rfl fun a6 F6 => ?_
    refine sqC (v := (.bool (unlikeS l (l.map (keyedS k))))) F6 M0 (wantedS rfl) (run_call rfl Tryd.func57 (by kernel_rfl) rfl (mapE2 (F6.ev 23 rfl) (F6.ev 24 rfl))) rfl (by decide) (unlike_any l (l.map (keyedS k)) v v5 w1 (hV.below M0.below) (by have hq := Sl.own hO0; rw [hie, List.take_length] at hq; rw [List.length_map]; exact hq) (List.length_map ..) (fun d hd => by obtain ⟨x, _, rfl⟩ := List.mem_map.1 hd; exact keyedS_len _ _) hl) fun a7 w2 hb2 F7 M1 => ?_
    have hO1 := hO0.grow hb2
    refine asS F7 rfl rfl rfl rfl rfl fun a8 F8 => ?_
    refine sn ?_
    clear F4 F5 F6 F7 M0
    refine wp_ret ?_
    exact ret1 F8 rfl rfl ⟨rfl, M1.below⟩
end Go.Proofs.YtdjjiblijbjobaaDoor
