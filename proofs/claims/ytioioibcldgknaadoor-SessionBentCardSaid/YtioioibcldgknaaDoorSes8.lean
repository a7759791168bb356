/- The walks of the reference's unlike and ApartKeyed. Printed by gen_ses8.py. -/
import Derived.Test.YtioioibcldgknaaDoorDig
namespace Go.Proofs.YtioioibcldgknaaDoor
open Go.RowKit

attribute [local simp] xorS_len tagS_len keyedS_len nonceS_len
set_option maxRecDepth 100000 in
set_option maxHeartbeats 1000000 in
theorem unlike_any (l S : List (List UInt8)) (v u : Value) (w : World) (hV : Sl w v 1 l.length (l.map tx)) (hU : Sl w u 32 S.length (S.flatMap dgC)) (hSl : S.length = l.length) (h32 : ∀ d ∈ S, d.length = 32) (hl : l.length < 2 ^ 40) : Calls Tryd.prog 40 #[v, u] w fun e w' => e = .returned (.bool (unlikeS l S)) ∧ Below w.heap.size w w' := by
  refine walk_enter Tryd.func40 rfl rfl rfl fun a0 hF0 => ?_
  have hM0 := Mem.new w
  refine wp_seq ?_
  refine wp_region_lit ?_
  refine sq (v := (.bool false)) hF0 (wantedS rfl) (run_as rfl rfl) rfl (by decide) fun a1 hF1 => ?_
  refine sqEnd ?_
  clear hF0
  refine nx ?_
  refine wp_seq ?_
  refine wp_seq ?_
  refine wp_region_lit ?_
  refine sq (v := (.int .i64 0)) hF1 (wantedS rfl) (run_as rfl rfl) rfl (by decide) fun a2 hF2 => ?_
  refine sqEnd ?_
  clear hF1
  refine nx ?_
  refine wp_block ?_
  refine wkLoop (fun m a w2 => ∃ i : Nat, i ≤ l.length ∧ m = l.length - i ∧ (List.range i).all (unS l S) = true ∧ Fr a 38 [(0, v), (1, u), (5, .int .i64 (i : Int))] ∧ Mem w [] w2) l.length ⟨0, Nat.zero_le _, rfl, rfl, hF2.sub ⟨rfl, rfl, rfl, trivial⟩, hM0⟩ ?_
  rintro m a0 w1 ⟨i, hi, rfl, hall, hF0, hM0⟩
  by_cases hlt : i < l.length
  · obtain ⟨x, hx⟩ : ∃ x, l[i]? = some x := ⟨l[i], by simp [hlt]⟩
    obtain ⟨p, hp⟩ : ∃ p, S[i]? = some p := ⟨S[i]'(by omega), List.getElem?_eq_getElem (by omega)⟩
    have hp32 := h32 p (List.mem_of_getElem? hp)
    refine wp_seq ?_
    refine wp_seq ?_
    refine wp_region_lit ?_
    refine sq (v := (.int .i64 (i : Int))) hF0 (wantedS rfl) (run_mv rfl (hF0.ev 5 rfl)) rfl (by decide) fun a1 hF1 => ?_
    refine sq (v := v) hF1 (wantedS rfl) (run_mv rfl (hF1.ev 0 rfl)) rfl (by decide) fun a2 hF2 => ?_
    refine sq (v := (.int .i64 (l.length : Int))) hF2 (wantedS rfl) (run_lenS rfl (hF2.ev 8 rfl) (hV.below hM0.below) rfl Tryd.underlying34) rfl (by decide) fun a3 hF3 => ?_
    refine sq (v := (.bool true)) hF3 (wantedS rfl) (run_lss rfl (hF3.ev 7 rfl) (hF3.ev 9 rfl) (decide_eq_true (by omega))) rfl (by decide) fun a4 hF4 => ?_
    refine sqEnd ?_
    clear hF0 hF1 hF2 hF3
    refine nx ?_
    refine wp_cond_true (hF4.ev 10 rfl) ?_
    refine wp_skip ?_
    refine nx ?_
    refine wp_seq ?_
    refine wp_block ?_
    refine wp_seq ?_
    refine wp_region_lit ?_
    refine sq (v := (.int .i64 0)) hF4 (wantedS rfl) (run_as rfl rfl) rfl (by decide) fun a5 hF5 => ?_
    refine sqEnd ?_
    clear hF4
    refine nx ?_
    refine wp_block ?_
    refine wkLoop (fun m a w2 => ∃ k : Nat, k ≤ i ∧ m = i - k ∧ (List.range k).all (unB l S i) = true ∧ Fr a 38 [(0, v), (1, u), (5, .int .i64 (i : Int)), (6, .int .i64 (k : Int))] ∧ Mem w [] w2) i ⟨0, Nat.zero_le _, rfl, rfl, hF5.sub ⟨rfl, rfl, rfl, rfl, trivial⟩, hM0⟩ ?_
    rintro m0 a0 w1 ⟨k, hk, rfl, hin0, hF0, hM0⟩
    by_cases hki : k < i
    · obtain ⟨y, hy⟩ : ∃ y, l[k]? = some y := ⟨l[k]'(by omega), List.getElem?_eq_getElem (by omega)⟩
      obtain ⟨q, hq⟩ : ∃ q, S[k]? = some q := ⟨S[k]'(by omega), List.getElem?_eq_getElem (by omega)⟩
      have hq32 := h32 q (List.mem_of_getElem? hq)
      have hun : unB l S i k = !((p == q) && !(x == y)) := by unfold unB; rw [getD_of hp, getD_of hq, getD_of hx, getD_of hy]
      cases hpe : (p == q)
      · have hpq : (!((p == q) && !(x == y))) = true := by rw [hpe]; rfl
        refine wp_seq ?_
        refine wp_seq ?_
        refine wp_region_lit ?_
        refine sq (v := (.int .i64 (k : Int))) hF0 (wantedS rfl) (run_mv rfl (hF0.ev 6 rfl)) rfl (by decide) fun a1 hF1 => ?_
        refine sq (v := (.int .i64 (i : Int))) hF1 (wantedS rfl) (run_mv rfl (hF1.ev 5 rfl)) rfl (by decide) fun a2 hF2 => ?_
        refine sq (v := (.bool true)) hF2 (wantedS rfl) (run_lss rfl (hF2.ev 13 rfl) (hF2.ev 14 rfl) (decide_eq_true (by omega))) rfl (by decide) fun a3 hF3 => ?_
        refine sqEnd ?_
        clear hF0 hF1 hF2
        refine nx ?_
        refine wp_cond_true (hF3.ev 15 rfl) ?_
        refine wp_skip ?_
        refine nx ?_
        refine wp_seq ?_
        refine wp_block ?_
        refine wp_seq ?_
        obtain ⟨KL, hKL⟩ : ∃ KL, KL = [kval u, kval (.int .i64 (i : Int)), kval (slPtr u (i * 32)), kval (.agg ((dgC p).toArray)), kval u, kval (.int .i64 (k : Int)), kval (slPtr u (k * 32)), kval (.agg ((dgC q).toArray)), kval (.bool false), kval (.bool false), kval undef, kval undef, kval undef, kval undef, kval undef, kval undef, kval undef, kval undef, kval undef, kval (.bool false)] := ⟨_, rfl⟩
        have K0 : KL.getD 0 kany = kval u := by rw [hKL]; rfl
        have K1 : KL.getD 1 kany = kval (.int .i64 (i : Int)) := by rw [hKL]; rfl
        have K2 : KL.getD 2 kany = kval (slPtr u (i * 32)) := by rw [hKL]; rfl
        have K3 : KL.getD 3 kany = kval (.agg ((dgC p).toArray)) := by rw [hKL]; rfl
        have K4 : KL.getD 4 kany = kval u := by rw [hKL]; rfl
        have K5 : KL.getD 5 kany = kval (.int .i64 (k : Int)) := by rw [hKL]; rfl
        have K6 : KL.getD 6 kany = kval (slPtr u (k * 32)) := by rw [hKL]; rfl
        have K7 : KL.getD 7 kany = kval (.agg ((dgC q).toArray)) := by rw [hKL]; rfl
        have K8 : KL.getD 8 kany = kval (.bool false) := by rw [hKL]; rfl
        have K9 : KL.getD 9 kany = kval (.bool false) := by rw [hKL]; rfl
        have K10 : KL.getD 10 kany = kval undef := by rw [hKL]; rfl
        have K11 : KL.getD 11 kany = kval undef := by rw [hKL]; rfl
        have K12 : KL.getD 12 kany = kval undef := by rw [hKL]; rfl
        have K13 : KL.getD 13 kany = kval undef := by rw [hKL]; rfl
        have K14 : KL.getD 14 kany = kval undef := by rw [hKL]; rfl
        have K15 : KL.getD 15 kany = kval undef := by rw [hKL]; rfl
        have K16 : KL.getD 16 kany = kval undef := by rw [hKL]; rfl
        have K17 : KL.getD 17 kany = kval undef := by rw [hKL]; rfl
        have K18 : KL.getD 18 kany = kval undef := by rw [hKL]; rfl
        have K19 : KL.getD 19 kany = kval (.bool false) := by rw [hKL]; rfl
        clear hKL
        refine wp_region_kd 38 (by kernel_rfl) (by kernel_rfl) (by kernel_rfl) hF3.size KL ?_ ?_
        · refine ⟨?_, ?_, ?_, ?_, ?_, ?_, ?_, ?_, ?_, ?_, ?_, ?_, ?_, ?_, ?_, ?_, ?_, ?_, ?_, ?_, trivial⟩
          · refine asks_mk fun a W hS hh hd => ⟨wanted_yes rfl, ?_⟩
            exact giv_run (run_mv rfl (eval_tmp (hh 1 _ rfl (hF3.at 1 rfl)))) K0
          · refine asks_mk fun a W hS hh hd => ⟨wanted_yes rfl, ?_⟩
            exact giv_run (run_mv rfl (eval_tmp (hh 5 _ rfl (hF3.at 5 rfl)))) K1
          · refine asks_mk fun a W hS hh hd => ⟨wanted_yes rfl, ?_⟩
            exact giv_run (run_atP (i := i) rfl (eval_tmp (hd.val (j := 0) (s := 18) (by kernel_rfl) K0)) (eval_tmp (hd.val (j := 1) (s := 19) (by kernel_rfl) K1)) rfl (hU.below (hM0.grow hS).below) (by omega) elDig.un (by kernel_rfl)) K2
          · refine asks_mk fun a W hS hh hd => ⟨wanted_yes rfl, ?_⟩
            exact giv_run (run_ldPS (ys := dgC p) rfl (eval_tmp (hd.val (j := 2) (s := 20) (by kernel_rfl) K2)) (hU.below (hM0.grow hS).below) (by omega) (fun j u hj => flat_at dgC_len hp j hj) (by kernel_rfl) (by kernel_rfl)) K3
          · refine asks_mk fun a W hS hh hd => ⟨wanted_yes rfl, ?_⟩
            exact giv_run (run_mv rfl (eval_tmp (hh 1 _ rfl (hF3.at 1 rfl)))) K4
          · refine asks_mk fun a W hS hh hd => ⟨wanted_yes rfl, ?_⟩
            exact giv_run (run_mv rfl (eval_tmp (hh 6 _ rfl (hF3.at 6 rfl)))) K5
          · refine asks_mk fun a W hS hh hd => ⟨wanted_yes rfl, ?_⟩
            exact giv_run (run_atP (i := k) rfl (eval_tmp (hd.val (j := 4) (s := 22) (by kernel_rfl) K4)) (eval_tmp (hd.val (j := 5) (s := 23) (by kernel_rfl) K5)) rfl (hU.below (hM0.grow hS).below) (by omega) elDig.un (by kernel_rfl)) K6
          · refine asks_mk fun a W hS hh hd => ⟨wanted_yes rfl, ?_⟩
            exact giv_run (run_ldPS (ys := dgC q) rfl (eval_tmp (hd.val (j := 6) (s := 24) (by kernel_rfl) K6)) (hU.below (hM0.grow hS).below) (by omega) (fun j u hj => flat_at dgC_len hq j hj) (by kernel_rfl) (by kernel_rfl)) K7
          · refine asks_mk fun a W hS hh hd => ⟨wanted_yes rfl, ?_⟩
            exact giv_run (run_eqDg hp32 hq32 hpe rfl (eval_tmp (hd.val (j := 3) (s := 21) (by kernel_rfl) K3)) (eval_tmp (hd.val (j := 7) (s := 25) (by kernel_rfl) K7))) K8
          · refine asks_mk fun a W hS hh hd => ⟨wanted_yes rfl, ?_⟩
            exact giv_run (run_mv rfl (eval_tmp (hd.val (j := 8) (s := 26) (by kernel_rfl) K8))) K9
          · exact asks_skip fun a W hS hh hd => ⟨unwanted_of (j := 9) (s := 27) (want := true) (by kernel_rfl) (hd.val (j := 9) (s := 27) (by kernel_rfl) K9), show kT KL 10 undef W by unfold kT; rw [K10]; rfl⟩
          · exact asks_skip fun a W hS hh hd => ⟨unwanted_of (j := 9) (s := 27) (want := true) (by kernel_rfl) (hd.val (j := 9) (s := 27) (by kernel_rfl) K9), show kT KL 11 undef W by unfold kT; rw [K11]; rfl⟩
          · exact asks_skip fun a W hS hh hd => ⟨unwanted_of (j := 9) (s := 27) (want := true) (by kernel_rfl) (hd.val (j := 9) (s := 27) (by kernel_rfl) K9), show kT KL 12 undef W by unfold kT; rw [K12]; rfl⟩
          · exact asks_skip fun a W hS hh hd => ⟨unwanted_of (j := 9) (s := 27) (want := true) (by kernel_rfl) (hd.val (j := 9) (s := 27) (by kernel_rfl) K9), show kT KL 13 undef W by unfold kT; rw [K13]; rfl⟩
          · exact asks_skip fun a W hS hh hd => ⟨unwanted_of (j := 9) (s := 27) (want := true) (by kernel_rfl) (hd.val (j := 9) (s := 27) (by kernel_rfl) K9), show kT KL 14 undef W by unfold kT; rw [K14]; rfl⟩
          · exact asks_skip fun a W hS hh hd => ⟨unwanted_of (j := 9) (s := 27) (want := true) (by kernel_rfl) (hd.val (j := 9) (s := 27) (by kernel_rfl) K9), show kT KL 15 undef W by unfold kT; rw [K15]; rfl⟩
          · exact asks_skip fun a W hS hh hd => ⟨unwanted_of (j := 9) (s := 27) (want := true) (by kernel_rfl) (hd.val (j := 9) (s := 27) (by kernel_rfl) K9), show kT KL 16 undef W by unfold kT; rw [K16]; rfl⟩
          · exact asks_skip fun a W hS hh hd => ⟨unwanted_of (j := 9) (s := 27) (want := true) (by kernel_rfl) (hd.val (j := 9) (s := 27) (by kernel_rfl) K9), show kT KL 17 undef W by unfold kT; rw [K17]; rfl⟩
          · exact asks_skip fun a W hS hh hd => ⟨unwanted_of (j := 9) (s := 27) (want := true) (by kernel_rfl) (hd.val (j := 9) (s := 27) (by kernel_rfl) K9), show kT KL 18 undef W by unfold kT; rw [K18]; rfl⟩
          · refine asks_mk fun a W hS hh hd => ⟨wanted_yes rfl, ?_⟩
            exact giv_run (run_pick rfl (eval_tmp (hd.val (j := 9) (s := 27) (by kernel_rfl) K9)) (eval_tmp (hd.val (j := 18) (s := 36) (by kernel_rfl) K18)) rfl) K19
        · intro a4 w2 hb2 hK
          have e0 := hK.val (i := 0) (s := 18) (by kernel_rfl) K0
          have e1 := hK.val (i := 1) (s := 19) (by kernel_rfl) K1
          have e2 := hK.val (i := 2) (s := 20) (by kernel_rfl) K2
          have e3 := hK.val (i := 3) (s := 21) (by kernel_rfl) K3
          have e4 := hK.val (i := 4) (s := 22) (by kernel_rfl) K4
          have e5 := hK.val (i := 5) (s := 23) (by kernel_rfl) K5
          have e6 := hK.val (i := 6) (s := 24) (by kernel_rfl) K6
          have e7 := hK.val (i := 7) (s := 25) (by kernel_rfl) K7
          have e8 := hK.val (i := 8) (s := 26) (by kernel_rfl) K8
          have e9 := hK.val (i := 9) (s := 27) (by kernel_rfl) K9
          have e10 := hK.val (i := 10) (s := 28) (by kernel_rfl) K10
          have e11 := hK.val (i := 11) (s := 29) (by kernel_rfl) K11
          have e12 := hK.val (i := 12) (s := 30) (by kernel_rfl) K12
          have e13 := hK.val (i := 13) (s := 31) (by kernel_rfl) K13
          have e14 := hK.val (i := 14) (s := 32) (by kernel_rfl) K14
          have e15 := hK.val (i := 15) (s := 33) (by kernel_rfl) K15
          have e16 := hK.val (i := 16) (s := 34) (by kernel_rfl) K16
          have e17 := hK.val (i := 17) (s := 35) (by kernel_rfl) K17
          have e18 := hK.val (i := 18) (s := 36) (by kernel_rfl) K18
          have e19 := hK.val (i := 19) (s := 37) (by kernel_rfl) K19
          have hF4 : Fr a4 38 [(0, v), (1, u), (5, (.int .i64 (i : Int))), (6, (.int .i64 (k : Int))), (13, (.int .i64 (k : Int))), (14, (.int .i64 (i : Int))), (15, (.bool true)), (37, (.bool false))] := (hK.fr hF3 [u, (.int .i64 (i : Int)), (slPtr u (i * 32)), (.agg ((dgC p).toArray)), u, (.int .i64 (k : Int)), (slPtr u (k * 32)), (.agg ((dgC q).toArray)), (.bool false), (.bool false), undef, undef, undef, undef, undef, undef, undef, undef, undef, (.bool false)] ⟨e0, e1, e2, e3, e4, e5, e6, e7, e8, e9, e10, e11, e12, e13, e14, e15, e16, e17, e18, e19, trivial⟩).sub ⟨rfl, rfl, rfl, rfl, rfl, rfl, rfl, rfl, trivial⟩
          have hM1 := hM0.grow hb2
          clear hK K0 e0 K1 e1 K2 e2 K3 e3 K4 e4 K5 e5 K6 e6 K7 e7 K8 e8 K9 e9 K10 e10 K11 e11 K12 e12 K13 e13 K14 e14 K15 e15 K16 e16 K17 e17 K18 e18 K19 e19
          clear hF3 hM0
          refine nx ?_
          refine wp_cond_false (hF4.ev 37 rfl) ?_
          refine wp_skip ?_
          refine bkEnd ?_
          refine nx ?_
          refine wp_region_lit ?_
          refine sq (v := (.int .i64 (k : Int))) hF4 (wantedS rfl) (run_mv rfl (hF4.ev 6 rfl)) rfl (by decide) fun a5 hF5 => ?_
          refine sq (v := (.int .i64 ((k + 1 : Nat) : Int))) hF5 (wantedS rfl) (run_add (r := ((k + 1 : Nat) : Int)) rfl (hF5.ev 16 rfl) rfl (by rw [IntKind.wrap_i64]; omega)) rfl (by decide) fun a6 hF6 => ?_
          refine sq (v := (.int .i64 ((k + 1 : Nat) : Int))) hF6 (wantedS rfl) (run_as rfl (hF6.ev 17 rfl)) rfl (by decide) fun a7 hF7 => ?_
          refine sqEnd ?_
          clear hF4 hF5 hF6
          refine nx ?_
          exact ⟨_, by omega, k + 1, by omega, rfl, all_range_snoc hin0 (by rw [hun, hpq]), hF7.sub ⟨rfl, rfl, rfl, rfl, trivial⟩, hM1⟩
      · cases hxe : (x == y)
        · have hres : unlikeS l S = false := all_range_no hlt (all_range_no hki (by rw [hun, hpe, hxe]; rfl))
          refine wp_seq ?_
          refine wp_seq ?_
          refine wp_region_lit ?_
          refine sq (v := (.int .i64 (k : Int))) hF0 (wantedS rfl) (run_mv rfl (hF0.ev 6 rfl)) rfl (by decide) fun a1 hF1 => ?_
          refine sq (v := (.int .i64 (i : Int))) hF1 (wantedS rfl) (run_mv rfl (hF1.ev 5 rfl)) rfl (by decide) fun a2 hF2 => ?_
          refine sq (v := (.bool true)) hF2 (wantedS rfl) (run_lss rfl (hF2.ev 13 rfl) (hF2.ev 14 rfl) (decide_eq_true (by omega))) rfl (by decide) fun a3 hF3 => ?_
          refine sqEnd ?_
          clear hF0 hF1 hF2
          refine nx ?_
          refine wp_cond_true (hF3.ev 15 rfl) ?_
          refine wp_skip ?_
          refine nx ?_
          refine wp_seq ?_
          refine wp_block ?_
          refine wp_seq ?_
          obtain ⟨KL, hKL⟩ : ∃ KL, KL = [kval u, kval (.int .i64 (i : Int)), kval (slPtr u (i * 32)), kval (.agg ((dgC p).toArray)), kval u, kval (.int .i64 (k : Int)), kval (slPtr u (k * 32)), kval (.agg ((dgC q).toArray)), kval (.bool true), kval (.bool true), kval v, kval (.int .i64 (i : Int)), kval (slPtr v (i * 1)), kval (.string ⟨x.toArray⟩), kval v, kval (.int .i64 (k : Int)), kval (slPtr v (k * 1)), kval (.string ⟨y.toArray⟩), kval (.bool true), kval (.bool true)] := ⟨_, rfl⟩
          have K0 : KL.getD 0 kany = kval u := by rw [hKL]; rfl
          have K1 : KL.getD 1 kany = kval (.int .i64 (i : Int)) := by rw [hKL]; rfl
          have K2 : KL.getD 2 kany = kval (slPtr u (i * 32)) := by rw [hKL]; rfl
          have K3 : KL.getD 3 kany = kval (.agg ((dgC p).toArray)) := by rw [hKL]; rfl
          have K4 : KL.getD 4 kany = kval u := by rw [hKL]; rfl
          have K5 : KL.getD 5 kany = kval (.int .i64 (k : Int)) := by rw [hKL]; rfl
          have K6 : KL.getD 6 kany = kval (slPtr u (k * 32)) := by rw [hKL]; rfl
          have K7 : KL.getD 7 kany = kval (.agg ((dgC q).toArray)) := by rw [hKL]; rfl
          have K8 : KL.getD 8 kany = kval (.bool true) := by rw [hKL]; rfl
          have K9 : KL.getD 9 kany = kval (.bool true) := by rw [hKL]; rfl
          have K10 : KL.getD 10 kany = kval v := by rw [hKL]; rfl
          have K11 : KL.getD 11 kany = kval (.int .i64 (i : Int)) := by rw [hKL]; rfl
          have K12 : KL.getD 12 kany = kval (slPtr v (i * 1)) := by rw [hKL]; rfl
          have K13 : KL.getD 13 kany = kval (.string ⟨x.toArray⟩) := by rw [hKL]; rfl
          have K14 : KL.getD 14 kany = kval v := by rw [hKL]; rfl
          have K15 : KL.getD 15 kany = kval (.int .i64 (k : Int)) := by rw [hKL]; rfl
          have K16 : KL.getD 16 kany = kval (slPtr v (k * 1)) := by rw [hKL]; rfl
          have K17 : KL.getD 17 kany = kval (.string ⟨y.toArray⟩) := by rw [hKL]; rfl
          have K18 : KL.getD 18 kany = kval (.bool true) := by rw [hKL]; rfl
          have K19 : KL.getD 19 kany = kval (.bool true) := by rw [hKL]; rfl
          clear hKL
          refine wp_region_kd 38 (by kernel_rfl) (by kernel_rfl) (by kernel_rfl) hF3.size KL ?_ ?_
          · refine ⟨?_, ?_, ?_, ?_, ?_, ?_, ?_, ?_, ?_, ?_, ?_, ?_, ?_, ?_, ?_, ?_, ?_, ?_, ?_, ?_, trivial⟩
            · refine asks_mk fun a W hS hh hd => ⟨wanted_yes rfl, ?_⟩
              exact giv_run (run_mv rfl (eval_tmp (hh 1 _ rfl (hF3.at 1 rfl)))) K0
            · refine asks_mk fun a W hS hh hd => ⟨wanted_yes rfl, ?_⟩
              exact giv_run (run_mv rfl (eval_tmp (hh 5 _ rfl (hF3.at 5 rfl)))) K1
            · refine asks_mk fun a W hS hh hd => ⟨wanted_yes rfl, ?_⟩
              exact giv_run (run_atP (i := i) rfl (eval_tmp (hd.val (j := 0) (s := 18) (by kernel_rfl) K0)) (eval_tmp (hd.val (j := 1) (s := 19) (by kernel_rfl) K1)) rfl (hU.below (hM0.grow hS).below) (by omega) elDig.un (by kernel_rfl)) K2
            · refine asks_mk fun a W hS hh hd => ⟨wanted_yes rfl, ?_⟩
              exact giv_run (run_ldPS (ys := dgC p) rfl (eval_tmp (hd.val (j := 2) (s := 20) (by kernel_rfl) K2)) (hU.below (hM0.grow hS).below) (by omega) (fun j u hj => flat_at dgC_len hp j hj) (by kernel_rfl) (by kernel_rfl)) K3
            · refine asks_mk fun a W hS hh hd => ⟨wanted_yes rfl, ?_⟩
              exact giv_run (run_mv rfl (eval_tmp (hh 1 _ rfl (hF3.at 1 rfl)))) K4
            · refine asks_mk fun a W hS hh hd => ⟨wanted_yes rfl, ?_⟩
              exact giv_run (run_mv rfl (eval_tmp (hh 6 _ rfl (hF3.at 6 rfl)))) K5
            · refine asks_mk fun a W hS hh hd => ⟨wanted_yes rfl, ?_⟩
              exact giv_run (run_atP (i := k) rfl (eval_tmp (hd.val (j := 4) (s := 22) (by kernel_rfl) K4)) (eval_tmp (hd.val (j := 5) (s := 23) (by kernel_rfl) K5)) rfl (hU.below (hM0.grow hS).below) (by omega) elDig.un (by kernel_rfl)) K6
            · refine asks_mk fun a W hS hh hd => ⟨wanted_yes rfl, ?_⟩
              exact giv_run (run_ldPS (ys := dgC q) rfl (eval_tmp (hd.val (j := 6) (s := 24) (by kernel_rfl) K6)) (hU.below (hM0.grow hS).below) (by omega) (fun j u hj => flat_at dgC_len hq j hj) (by kernel_rfl) (by kernel_rfl)) K7
            · refine asks_mk fun a W hS hh hd => ⟨wanted_yes rfl, ?_⟩
              exact giv_run (run_eqDg hp32 hq32 hpe rfl (eval_tmp (hd.val (j := 3) (s := 21) (by kernel_rfl) K3)) (eval_tmp (hd.val (j := 7) (s := 25) (by kernel_rfl) K7))) K8
            · refine asks_mk fun a W hS hh hd => ⟨wanted_yes rfl, ?_⟩
              exact giv_run (run_mv rfl (eval_tmp (hd.val (j := 8) (s := 26) (by kernel_rfl) K8))) K9
            · refine asks_mk fun a W hS hh hd => ⟨wanted_of (j := 9) (s := 27) (by kernel_rfl) (hd.val (j := 9) (s := 27) (by kernel_rfl) K9), ?_⟩
              exact giv_run (run_mv rfl (eval_tmp (hh 0 _ rfl (hF3.at 0 rfl)))) K10
            · refine asks_mk fun a W hS hh hd => ⟨wanted_of (j := 9) (s := 27) (by kernel_rfl) (hd.val (j := 9) (s := 27) (by kernel_rfl) K9), ?_⟩
              exact giv_run (run_mv rfl (eval_tmp (hh 5 _ rfl (hF3.at 5 rfl)))) K11
            · refine asks_mk fun a W hS hh hd => ⟨wanted_of (j := 9) (s := 27) (by kernel_rfl) (hd.val (j := 9) (s := 27) (by kernel_rfl) K9), ?_⟩
              exact giv_run (run_atP (i := i) rfl (eval_tmp (hd.val (j := 10) (s := 28) (by kernel_rfl) K10)) (eval_tmp (hd.val (j := 11) (s := 29) (by kernel_rfl) K11)) rfl (hV.below (hM0.grow hS).below) (by omega) elStr.un (by kernel_rfl)) K12
            · refine asks_mk fun a W hS hh hd => ⟨wanted_of (j := 9) (s := 27) (by kernel_rfl) (hd.val (j := 9) (s := 27) (by kernel_rfl) K9), ?_⟩
              exact giv_run (run_ldP rfl (eval_tmp (hd.val (j := 12) (s := 30) (by kernel_rfl) K12)) (hV.below (hM0.grow hS).below) (map_at hx) (by kernel_rfl)) K13
            · refine asks_mk fun a W hS hh hd => ⟨wanted_of (j := 9) (s := 27) (by kernel_rfl) (hd.val (j := 9) (s := 27) (by kernel_rfl) K9), ?_⟩
              exact giv_run (run_mv rfl (eval_tmp (hh 0 _ rfl (hF3.at 0 rfl)))) K14
            · refine asks_mk fun a W hS hh hd => ⟨wanted_of (j := 9) (s := 27) (by kernel_rfl) (hd.val (j := 9) (s := 27) (by kernel_rfl) K9), ?_⟩
              exact giv_run (run_mv rfl (eval_tmp (hh 6 _ rfl (hF3.at 6 rfl)))) K15
            · refine asks_mk fun a W hS hh hd => ⟨wanted_of (j := 9) (s := 27) (by kernel_rfl) (hd.val (j := 9) (s := 27) (by kernel_rfl) K9), ?_⟩
              exact giv_run (run_atP (i := k) rfl (eval_tmp (hd.val (j := 14) (s := 32) (by kernel_rfl) K14)) (eval_tmp (hd.val (j := 15) (s := 33) (by kernel_rfl) K15)) rfl (hV.below (hM0.grow hS).below) (by omega) elStr.un (by kernel_rfl)) K16
            · refine asks_mk fun a W hS hh hd => ⟨wanted_of (j := 9) (s := 27) (by kernel_rfl) (hd.val (j := 9) (s := 27) (by kernel_rfl) K9), ?_⟩
              exact giv_run (run_ldP rfl (eval_tmp (hd.val (j := 16) (s := 34) (by kernel_rfl) K16)) (hV.below (hM0.grow hS).below) (map_at hy) (by kernel_rfl)) K17
            · refine asks_mk fun a W hS hh hd => ⟨wanted_of (j := 9) (s := 27) (by kernel_rfl) (hd.val (j := 9) (s := 27) (by kernel_rfl) K9), ?_⟩
              exact giv_run (run_nes rfl (eval_tmp (hd.val (j := 13) (s := 31) (by kernel_rfl) K13)) (eval_tmp (hd.val (j := 17) (s := 35) (by kernel_rfl) K17)) (by rw [hxe]; rfl)) K18
            · refine asks_mk fun a W hS hh hd => ⟨wanted_yes rfl, ?_⟩
              exact giv_run (run_pick rfl (eval_tmp (hd.val (j := 9) (s := 27) (by kernel_rfl) K9)) (eval_tmp (hd.val (j := 18) (s := 36) (by kernel_rfl) K18)) rfl) K19
          · intro a4 w2 hb2 hK
            have e0 := hK.val (i := 0) (s := 18) (by kernel_rfl) K0
            have e1 := hK.val (i := 1) (s := 19) (by kernel_rfl) K1
            have e2 := hK.val (i := 2) (s := 20) (by kernel_rfl) K2
            have e3 := hK.val (i := 3) (s := 21) (by kernel_rfl) K3
            have e4 := hK.val (i := 4) (s := 22) (by kernel_rfl) K4
            have e5 := hK.val (i := 5) (s := 23) (by kernel_rfl) K5
            have e6 := hK.val (i := 6) (s := 24) (by kernel_rfl) K6
            have e7 := hK.val (i := 7) (s := 25) (by kernel_rfl) K7
            have e8 := hK.val (i := 8) (s := 26) (by kernel_rfl) K8
            have e9 := hK.val (i := 9) (s := 27) (by kernel_rfl) K9
            have e10 := hK.val (i := 10) (s := 28) (by kernel_rfl) K10
            have e11 := hK.val (i := 11) (s := 29) (by kernel_rfl) K11
            have e12 := hK.val (i := 12) (s := 30) (by kernel_rfl) K12
            have e13 := hK.val (i := 13) (s := 31) (by kernel_rfl) K13
            have e14 := hK.val (i := 14) (s := 32) (by kernel_rfl) K14
            have e15 := hK.val (i := 15) (s := 33) (by kernel_rfl) K15
            have e16 := hK.val (i := 16) (s := 34) (by kernel_rfl) K16
            have e17 := hK.val (i := 17) (s := 35) (by kernel_rfl) K17
            have e18 := hK.val (i := 18) (s := 36) (by kernel_rfl) K18
            have e19 := hK.val (i := 19) (s := 37) (by kernel_rfl) K19
            have hF4 : Fr a4 38 [(0, v), (1, u), (5, (.int .i64 (i : Int))), (6, (.int .i64 (k : Int))), (13, (.int .i64 (k : Int))), (14, (.int .i64 (i : Int))), (15, (.bool true)), (37, (.bool true))] := (hK.fr hF3 [u, (.int .i64 (i : Int)), (slPtr u (i * 32)), (.agg ((dgC p).toArray)), u, (.int .i64 (k : Int)), (slPtr u (k * 32)), (.agg ((dgC q).toArray)), (.bool true), (.bool true), v, (.int .i64 (i : Int)), (slPtr v (i * 1)), (.string ⟨x.toArray⟩), v, (.int .i64 (k : Int)), (slPtr v (k * 1)), (.string ⟨y.toArray⟩), (.bool true), (.bool true)] ⟨e0, e1, e2, e3, e4, e5, e6, e7, e8, e9, e10, e11, e12, e13, e14, e15, e16, e17, e18, e19, trivial⟩).sub ⟨rfl, rfl, rfl, rfl, rfl, rfl, rfl, rfl, trivial⟩
            have hM1 := hM0.grow hb2
            clear hK K0 e0 K1 e1 K2 e2 K3 e3 K4 e4 K5 e5 K6 e6 K7 e7 K8 e8 K9 e9 K10 e10 K11 e11 K12 e12 K13 e13 K14 e14 K15 e15 K16 e16 K17 e17 K18 e18 K19 e19
            clear hF3 hM0
            refine nx ?_
            refine wp_cond_true (hF4.ev 37 rfl) ?_
            refine wp_seq ?_
            refine wp_region_lit ?_
            refine sq (v := (.bool false)) hF4 (wantedS rfl) (run_as rfl rfl) rfl (by decide) fun a5 hF5 => ?_
            refine sqEnd ?_
            clear hF4
            refine nx ?_
            refine wp_ret ?_
            refine bkRet ?_
            refine nxRet ?_
            refine nxRet ?_
            refine bkRet ?_
            refine bkRet ?_
            refine nxRet ?_
            refine nxRet ?_
            refine bkRet ?_
            refine nxRet ?_
            exact ret1 hF5 rfl rfl ⟨by rw [hres], hM1.below⟩
        · have hpq : (!((p == q) && !(x == y))) = true := by rw [hpe, hxe]; rfl
          refine wp_seq ?_
          refine wp_seq ?_
          refine wp_region_lit ?_
          refine sq (v := (.int .i64 (k : Int))) hF0 (wantedS rfl) (run_mv rfl (hF0.ev 6 rfl)) rfl (by decide) fun a1 hF1 => ?_
          refine sq (v := (.int .i64 (i : Int))) hF1 (wantedS rfl) (run_mv rfl (hF1.ev 5 rfl)) rfl (by decide) fun a2 hF2 => ?_
          refine sq (v := (.bool true)) hF2 (wantedS rfl) (run_lss rfl (hF2.ev 13 rfl) (hF2.ev 14 rfl) (decide_eq_true (by omega))) rfl (by decide) fun a3 hF3 => ?_
          refine sqEnd ?_
          clear hF0 hF1 hF2
          refine nx ?_
          refine wp_cond_true (hF3.ev 15 rfl) ?_
          refine wp_skip ?_
          refine nx ?_
          refine wp_seq ?_
          refine wp_block ?_
          refine wp_seq ?_
          obtain ⟨KL, hKL⟩ : ∃ KL, KL = [kval u, kval (.int .i64 (i : Int)), kval (slPtr u (i * 32)), kval (.agg ((dgC p).toArray)), kval u, kval (.int .i64 (k : Int)), kval (slPtr u (k * 32)), kval (.agg ((dgC q).toArray)), kval (.bool true), kval (.bool true), kval v, kval (.int .i64 (i : Int)), kval (slPtr v (i * 1)), kval (.string ⟨x.toArray⟩), kval v, kval (.int .i64 (k : Int)), kval (slPtr v (k * 1)), kval (.string ⟨y.toArray⟩), kval (.bool false), kval (.bool false)] := ⟨_, rfl⟩
          have K0 : KL.getD 0 kany = kval u := by rw [hKL]; rfl
          have K1 : KL.getD 1 kany = kval (.int .i64 (i : Int)) := by rw [hKL]; rfl
          have K2 : KL.getD 2 kany = kval (slPtr u (i * 32)) := by rw [hKL]; rfl
          have K3 : KL.getD 3 kany = kval (.agg ((dgC p).toArray)) := by rw [hKL]; rfl
          have K4 : KL.getD 4 kany = kval u := by rw [hKL]; rfl
          have K5 : KL.getD 5 kany = kval (.int .i64 (k : Int)) := by rw [hKL]; rfl
          have K6 : KL.getD 6 kany = kval (slPtr u (k * 32)) := by rw [hKL]; rfl
          have K7 : KL.getD 7 kany = kval (.agg ((dgC q).toArray)) := by rw [hKL]; rfl
          have K8 : KL.getD 8 kany = kval (.bool true) := by rw [hKL]; rfl
          have K9 : KL.getD 9 kany = kval (.bool true) := by rw [hKL]; rfl
          have K10 : KL.getD 10 kany = kval v := by rw [hKL]; rfl
          have K11 : KL.getD 11 kany = kval (.int .i64 (i : Int)) := by rw [hKL]; rfl
          have K12 : KL.getD 12 kany = kval (slPtr v (i * 1)) := by rw [hKL]; rfl
          have K13 : KL.getD 13 kany = kval (.string ⟨x.toArray⟩) := by rw [hKL]; rfl
          have K14 : KL.getD 14 kany = kval v := by rw [hKL]; rfl
          have K15 : KL.getD 15 kany = kval (.int .i64 (k : Int)) := by rw [hKL]; rfl
          have K16 : KL.getD 16 kany = kval (slPtr v (k * 1)) := by rw [hKL]; rfl
          have K17 : KL.getD 17 kany = kval (.string ⟨y.toArray⟩) := by rw [hKL]; rfl
          have K18 : KL.getD 18 kany = kval (.bool false) := by rw [hKL]; rfl
          have K19 : KL.getD 19 kany = kval (.bool false) := by rw [hKL]; rfl
          clear hKL
          refine wp_region_kd 38 (by kernel_rfl) (by kernel_rfl) (by kernel_rfl) hF3.size KL ?_ ?_
          · refine ⟨?_, ?_, ?_, ?_, ?_, ?_, ?_, ?_, ?_, ?_, ?_, ?_, ?_, ?_, ?_, ?_, ?_, ?_, ?_, ?_, trivial⟩
            · refine asks_mk fun a W hS hh hd => ⟨wanted_yes rfl, ?_⟩
              exact giv_run (run_mv rfl (eval_tmp (hh 1 _ rfl (hF3.at 1 rfl)))) K0
            · refine asks_mk fun a W hS hh hd => ⟨wanted_yes rfl, ?_⟩
              exact giv_run (run_mv rfl (eval_tmp (hh 5 _ rfl (hF3.at 5 rfl)))) K1
            · refine asks_mk fun a W hS hh hd => ⟨wanted_yes rfl, ?_⟩
              exact giv_run (run_atP (i := i) rfl (eval_tmp (hd.val (j := 0) (s := 18) (by kernel_rfl) K0)) (eval_tmp (hd.val (j := 1) (s := 19) (by kernel_rfl) K1)) rfl (hU.below (hM0.grow hS).below) (by omega) elDig.un (by kernel_rfl)) K2
            · refine asks_mk fun a W hS hh hd => ⟨wanted_yes rfl, ?_⟩
              exact giv_run (run_ldPS (ys := dgC p) rfl (eval_tmp (hd.val (j := 2) (s := 20) (by kernel_rfl) K2)) (hU.below (hM0.grow hS).below) (by omega) (fun j u hj => flat_at dgC_len hp j hj) (by kernel_rfl) (by kernel_rfl)) K3
            · refine asks_mk fun a W hS hh hd => ⟨wanted_yes rfl, ?_⟩
              exact giv_run (run_mv rfl (eval_tmp (hh 1 _ rfl (hF3.at 1 rfl)))) K4
            · refine asks_mk fun a W hS hh hd => ⟨wanted_yes rfl, ?_⟩
              exact giv_run (run_mv rfl (eval_tmp (hh 6 _ rfl (hF3.at 6 rfl)))) K5
            · refine asks_mk fun a W hS hh hd => ⟨wanted_yes rfl, ?_⟩
              exact giv_run (run_atP (i := k) rfl (eval_tmp (hd.val (j := 4) (s := 22) (by kernel_rfl) K4)) (eval_tmp (hd.val (j := 5) (s := 23) (by kernel_rfl) K5)) rfl (hU.below (hM0.grow hS).below) (by omega) elDig.un (by kernel_rfl)) K6
            · refine asks_mk fun a W hS hh hd => ⟨wanted_yes rfl, ?_⟩
              exact giv_run (run_ldPS (ys := dgC q) rfl (eval_tmp (hd.val (j := 6) (s := 24) (by kernel_rfl) K6)) (hU.below (hM0.grow hS).below) (by omega) (fun j u hj => flat_at dgC_len hq j hj) (by kernel_rfl) (by kernel_rfl)) K7
            · refine asks_mk fun a W hS hh hd => ⟨wanted_yes rfl, ?_⟩
              exact giv_run (run_eqDg hp32 hq32 hpe rfl (eval_tmp (hd.val (j := 3) (s := 21) (by kernel_rfl) K3)) (eval_tmp (hd.val (j := 7) (s := 25) (by kernel_rfl) K7))) K8
            · refine asks_mk fun a W hS hh hd => ⟨wanted_yes rfl, ?_⟩
              exact giv_run (run_mv rfl (eval_tmp (hd.val (j := 8) (s := 26) (by kernel_rfl) K8))) K9
            · refine asks_mk fun a W hS hh hd => ⟨wanted_of (j := 9) (s := 27) (by kernel_rfl) (hd.val (j := 9) (s := 27) (by kernel_rfl) K9), ?_⟩
              exact giv_run (run_mv rfl (eval_tmp (hh 0 _ rfl (hF3.at 0 rfl)))) K10
            · refine asks_mk fun a W hS hh hd => ⟨wanted_of (j := 9) (s := 27) (by kernel_rfl) (hd.val (j := 9) (s := 27) (by kernel_rfl) K9), ?_⟩
              exact giv_run (run_mv rfl (eval_tmp (hh 5 _ rfl (hF3.at 5 rfl)))) K11
            · refine asks_mk fun a W hS hh hd => ⟨wanted_of (j := 9) (s := 27) (by kernel_rfl) (hd.val (j := 9) (s := 27) (by kernel_rfl) K9), ?_⟩
              exact giv_run (run_atP (i := i) rfl (eval_tmp (hd.val (j := 10) (s := 28) (by kernel_rfl) K10)) (eval_tmp (hd.val (j := 11) (s := 29) (by kernel_rfl) K11)) rfl (hV.below (hM0.grow hS).below) (by omega) elStr.un (by kernel_rfl)) K12
            · refine asks_mk fun a W hS hh hd => ⟨wanted_of (j := 9) (s := 27) (by kernel_rfl) (hd.val (j := 9) (s := 27) (by kernel_rfl) K9), ?_⟩
              exact giv_run (run_ldP rfl (eval_tmp (hd.val (j := 12) (s := 30) (by kernel_rfl) K12)) (hV.below (hM0.grow hS).below) (map_at hx) (by kernel_rfl)) K13
            · refine asks_mk fun a W hS hh hd => ⟨wanted_of (j := 9) (s := 27) (by kernel_rfl) (hd.val (j := 9) (s := 27) (by kernel_rfl) K9), ?_⟩
              exact giv_run (run_mv rfl (eval_tmp (hh 0 _ rfl (hF3.at 0 rfl)))) K14
            · refine asks_mk fun a W hS hh hd => ⟨wanted_of (j := 9) (s := 27) (by kernel_rfl) (hd.val (j := 9) (s := 27) (by kernel_rfl) K9), ?_⟩
              exact giv_run (run_mv rfl (eval_tmp (hh 6 _ rfl (hF3.at 6 rfl)))) K15
            · refine asks_mk fun a W hS hh hd => ⟨wanted_of (j := 9) (s := 27) (by kernel_rfl) (hd.val (j := 9) (s := 27) (by kernel_rfl) K9), ?_⟩
              exact giv_run (run_atP (i := k) rfl (eval_tmp (hd.val (j := 14) (s := 32) (by kernel_rfl) K14)) (eval_tmp (hd.val (j := 15) (s := 33) (by kernel_rfl) K15)) rfl (hV.below (hM0.grow hS).below) (by omega) elStr.un (by kernel_rfl)) K16
            · refine asks_mk fun a W hS hh hd => ⟨wanted_of (j := 9) (s := 27) (by kernel_rfl) (hd.val (j := 9) (s := 27) (by kernel_rfl) K9), ?_⟩
              exact giv_run (run_ldP rfl (eval_tmp (hd.val (j := 16) (s := 34) (by kernel_rfl) K16)) (hV.below (hM0.grow hS).below) (map_at hy) (by kernel_rfl)) K17
            · refine asks_mk fun a W hS hh hd => ⟨wanted_of (j := 9) (s := 27) (by kernel_rfl) (hd.val (j := 9) (s := 27) (by kernel_rfl) K9), ?_⟩
              exact giv_run (run_nes rfl (eval_tmp (hd.val (j := 13) (s := 31) (by kernel_rfl) K13)) (eval_tmp (hd.val (j := 17) (s := 35) (by kernel_rfl) K17)) (by rw [hxe]; rfl)) K18
            · refine asks_mk fun a W hS hh hd => ⟨wanted_yes rfl, ?_⟩
              exact giv_run (run_pick rfl (eval_tmp (hd.val (j := 9) (s := 27) (by kernel_rfl) K9)) (eval_tmp (hd.val (j := 18) (s := 36) (by kernel_rfl) K18)) rfl) K19
          · intro a4 w2 hb2 hK
            have e0 := hK.val (i := 0) (s := 18) (by kernel_rfl) K0
            have e1 := hK.val (i := 1) (s := 19) (by kernel_rfl) K1
            have e2 := hK.val (i := 2) (s := 20) (by kernel_rfl) K2
            have e3 := hK.val (i := 3) (s := 21) (by kernel_rfl) K3
            have e4 := hK.val (i := 4) (s := 22) (by kernel_rfl) K4
            have e5 := hK.val (i := 5) (s := 23) (by kernel_rfl) K5
            have e6 := hK.val (i := 6) (s := 24) (by kernel_rfl) K6
            have e7 := hK.val (i := 7) (s := 25) (by kernel_rfl) K7
            have e8 := hK.val (i := 8) (s := 26) (by kernel_rfl) K8
            have e9 := hK.val (i := 9) (s := 27) (by kernel_rfl) K9
            have e10 := hK.val (i := 10) (s := 28) (by kernel_rfl) K10
            have e11 := hK.val (i := 11) (s := 29) (by kernel_rfl) K11
            have e12 := hK.val (i := 12) (s := 30) (by kernel_rfl) K12
            have e13 := hK.val (i := 13) (s := 31) (by kernel_rfl) K13
            have e14 := hK.val (i := 14) (s := 32) (by kernel_rfl) K14
            have e15 := hK.val (i := 15) (s := 33) (by kernel_rfl) K15
            have e16 := hK.val (i := 16) (s := 34) (by kernel_rfl) K16
            have e17 := hK.val (i := 17) (s := 35) (by kernel_rfl) K17
            have e18 := hK.val (i := 18) (s := 36) (by kernel_rfl) K18
            have e19 := hK.val (i := 19) (s := 37) (by kernel_rfl) K19
            have hF4 : Fr a4 38 [(0, v), (1, u), (5, (.int .i64 (i : Int))), (6, (.int .i64 (k : Int))), (13, (.int .i64 (k : Int))), (14, (.int .i64 (i : Int))), (15, (.bool true)), (37, (.bool false))] := (hK.fr hF3 [u, (.int .i64 (i : Int)), (slPtr u (i * 32)), (.agg ((dgC p).toArray)), u, (.int .i64 (k : Int)), (slPtr u (k * 32)), (.agg ((dgC q).toArray)), (.bool true), (.bool true), v, (.int .i64 (i : Int)), (slPtr v (i * 1)), (.string ⟨x.toArray⟩), v, (.int .i64 (k : Int)), (slPtr v (k * 1)), (.string ⟨y.toArray⟩), (.bool false), (.bool false)] ⟨e0, e1, e2, e3, e4, e5, e6, e7, e8, e9, e10, e11, e12, e13, e14, e15, e16, e17, e18, e19, trivial⟩).sub ⟨rfl, rfl, rfl, rfl, rfl, rfl, rfl, rfl, trivial⟩
            have hM1 := hM0.grow hb2
            clear hK K0 e0 K1 e1 K2 e2 K3 e3 K4 e4 K5 e5 K6 e6 K7 e7 K8 e8 K9 e9 K10 e10 K11 e11 K12 e12 K13 e13 K14 e14 K15 e15 K16 e16 K17 e17 K18 e18 K19 e19
            clear hF3 hM0
            refine nx ?_
            refine wp_cond_false (hF4.ev 37 rfl) ?_
            refine wp_skip ?_
            refine bkEnd ?_
            refine nx ?_
            refine wp_region_lit ?_
            refine sq (v := (.int .i64 (k : Int))) hF4 (wantedS rfl) (run_mv rfl (hF4.ev 6 rfl)) rfl (by decide) fun a5 hF5 => ?_
            refine sq (v := (.int .i64 ((k + 1 : Nat) : Int))) hF5 (wantedS rfl) (run_add (r := ((k + 1 : Nat) : Int)) rfl (hF5.ev 16 rfl) rfl (by rw [IntKind.wrap_i64]; omega)) rfl (by decide) fun a6 hF6 => ?_
            refine sq (v := (.int .i64 ((k + 1 : Nat) : Int))) hF6 (wantedS rfl) (run_as rfl (hF6.ev 17 rfl)) rfl (by decide) fun a7 hF7 => ?_
            refine sqEnd ?_
            clear hF4 hF5 hF6
            refine nx ?_
            exact ⟨_, by omega, k + 1, by omega, rfl, all_range_snoc hin0 (by rw [hun, hpq]), hF7.sub ⟨rfl, rfl, rfl, rfl, trivial⟩, hM1⟩
    · have hke : k = i := by omega
      have hin : unS l S i = true := by unfold unS; rw [← hke]; rw [hke] at hin0 ⊢; exact hin0
      refine wp_seq ?_
      refine wp_seq ?_
      refine wp_region_lit ?_
      refine sq (v := (.int .i64 (k : Int))) hF0 (wantedS rfl) (run_mv rfl (hF0.ev 6 rfl)) rfl (by decide) fun a1 hF1 => ?_
      refine sq (v := (.int .i64 (i : Int))) hF1 (wantedS rfl) (run_mv rfl (hF1.ev 5 rfl)) rfl (by decide) fun a2 hF2 => ?_
      refine sq (v := (.bool false)) hF2 (wantedS rfl) (run_lss rfl (hF2.ev 13 rfl) (hF2.ev 14 rfl) (decide_eq_false (by omega))) rfl (by decide) fun a3 hF3 => ?_
      refine sqEnd ?_
      clear hF0 hF1 hF2
      refine nx ?_
      refine wp_cond_false (hF3.ev 15 rfl) ?_
      refine wp_exit ?_
      refine nxExit ?_
      refine nxExit ?_
      refine bkHere ?_
      refine bkEnd ?_
      refine nx ?_
      refine wp_region_lit ?_
      refine sq (v := (.int .i64 (i : Int))) hF3 (wantedS rfl) (run_mv rfl (hF3.ev 5 rfl)) rfl (by decide) fun a4 hF4 => ?_
      refine sq (v := (.int .i64 ((i + 1 : Nat) : Int))) hF4 (wantedS rfl) (run_add (r := ((i + 1 : Nat) : Int)) rfl (hF4.ev 11 rfl) rfl (by rw [IntKind.wrap_i64]; omega)) rfl (by decide) fun a5 hF5 => ?_
      refine sq (v := (.int .i64 ((i + 1 : Nat) : Int))) hF5 (wantedS rfl) (run_as rfl (hF5.ev 12 rfl)) rfl (by decide) fun a6 hF6 => ?_
      refine sqEnd ?_
      clear hF3 hF4 hF5
      refine nx ?_
      exact ⟨_, by omega, i + 1, by omega, rfl, all_range_snoc hall hin, hF6.sub ⟨rfl, rfl, rfl, trivial⟩, hM0⟩
  · have hie : i = l.length := by omega
    have hres : unlikeS l S = true := by unfold unlikeS; rw [← hie]; exact hall
    refine wp_seq ?_
    refine wp_seq ?_
    refine wp_region_lit ?_
    refine sq (v := (.int .i64 (i : Int))) hF0 (wantedS rfl) (run_mv rfl (hF0.ev 5 rfl)) rfl (by decide) fun a1 hF1 => ?_
    refine sq (v := v) hF1 (wantedS rfl) (run_mv rfl (hF1.ev 0 rfl)) rfl (by decide) fun a2 hF2 => ?_
    refine sq (v := (.int .i64 (l.length : Int))) hF2 (wantedS rfl) (run_lenS rfl (hF2.ev 8 rfl) (hV.below hM0.below) rfl Tryd.underlying34) rfl (by decide) fun a3 hF3 => ?_
    refine sq (v := (.bool false)) hF3 (wantedS rfl) (run_lss rfl (hF3.ev 7 rfl) (hF3.ev 9 rfl) (decide_eq_false (by omega))) rfl (by decide) fun a4 hF4 => ?_
    refine sqEnd ?_
    clear hF0 hF1 hF2 hF3
    refine nx ?_
    refine wp_cond_false (hF4.ev 10 rfl) ?_
    refine wp_exit ?_
    refine nxExit ?_
    refine nxExit ?_
    refine bkHere ?_
    refine nx ?_
    refine wp_seq ?_
    refine wp_region_lit ?_
    refine sq (v := (.bool true)) hF4 (wantedS rfl) (run_as rfl rfl) rfl (by decide) fun a5 hF5 => ?_
    refine sqEnd ?_
    clear hF4
    refine nx ?_
    refine wp_ret ?_
    exact ret1 hF5 rfl rfl ⟨by rw [hres], hM0.below⟩
set_option maxRecDepth 100000 in
set_option maxHeartbeats 1000000 in
theorem apart_any (k : List UInt8) (l : List (List UInt8)) (v : Value) (w : World) (hLk : k.length = 32) (hV : Sl w v 1 l.length (l.map tx)) (hl : l.length < 2 ^ 40) (hlx : ∀ x ∈ l, x.length < 2 ^ 40) : Calls Tryd.prog 18 #[.agg (cells8 k), v] w fun e w' => e = .returned (.bool (unlikeS l (l.map (keyedS k)))) ∧ Below w.heap.size w w' := by
  refine walk_enter Tryd.func18 rfl rfl rfl fun a0 hF0 => ?_
  have hM0 := Mem.new w
  refine wp_seq ?_
  refine wp_region_lit ?_
  refine sqNew (cs := (cells8 k)) (t := 24) hF0 hM0 (wantedS rfl) (run_box rfl (hF0.ev 0 rfl)) rfl (by decide) fun g0 a1 w1 hgg0 hb1 hF1 hM1 => ?_
  refine sq (v := (.bool false)) hF1 (wantedS rfl) (run_as rfl rfl) rfl (by decide) fun a2 hF2 => ?_
  refine sqEnd ?_
  clear hF0 hF1 hM0
  refine nx ?_
  refine wp_seq ?_
  refine wp_region_lit ?_
  refine sq (v := (.slice none 0 0)) hF2 (wantedS rfl) (run_as rfl rfl) rfl (by decide) fun a3 hF3 => ?_
  refine sqEnd ?_
  clear hF2
  refine nx ?_
  refine wp_seq ?_
  refine wp_seq ?_
  refine wp_region_lit ?_
  refine sq (v := (.int .i64 0)) hF3 (wantedS rfl) (run_as rfl rfl) rfl (by decide) fun a4 hF4 => ?_
  refine sqEnd ?_
  clear hF3
  refine nx ?_
  refine wp_block ?_
  refine wkLoop (fun m a w2 => ∃ (i : Nat) (v5 : Value), i ≤ l.length ∧ m = l.length - i ∧ OwnR w [(g0, isB 24 (cells8 k))] w2 54 32 v5 i (((l.take i).map (keyedS k)).flatMap dgC) ∧ Fr a 26 [(1, v), (2, .pointer (some ⟨g0, 0, none⟩)), (5, v5), (6, .int .i64 (i : Int))] ∧ Mem w [(g0, isB 24 (cells8 k))] w2) l.length ⟨0, _, Nat.zero_le _, rfl, OwnR.nil w w1 _ 54 32, hF4.sub ⟨rfl, rfl, rfl, rfl, trivial⟩, hM1⟩ ?_
  rintro m a0 w1 ⟨i, v5, hi, rfl, hO0, hF0, hM0⟩
  by_cases hlt : i < l.length
  · obtain ⟨x, hx⟩ : ∃ x, l[i]? = some x := ⟨l[i], by simp [hlt]⟩
    have hxl := hlx x (List.mem_of_getElem? hx)
    have hxs : ((l.take (i + 1)).map (keyedS k)).flatMap dgC = ((l.take i).map (keyedS k)).flatMap dgC ++ dgC (keyedS k x) := by rw [map_snoc2 (keyedS k) l i hx, List.flatMap_append]; simp
    generalize ((l.take i).map (keyedS k)).flatMap dgC = xs at hO0 hxs
    refine wp_seq ?_
    refine wp_seq ?_
    refine wp_region_lit ?_
    refine sq (v := (.int .i64 (i : Int))) hF0 (wantedS rfl) (run_mv rfl (hF0.ev 6 rfl)) rfl (by decide) fun a1 hF1 => ?_
    refine sq (v := v) hF1 (wantedS rfl) (run_mv rfl (hF1.ev 1 rfl)) rfl (by decide) fun a2 hF2 => ?_
    refine sq (v := (.int .i64 (l.length : Int))) hF2 (wantedS rfl) (run_lenS rfl (hF2.ev 8 rfl) (hV.below hM0.below) rfl Tryd.underlying34) rfl (by decide) fun a3 hF3 => ?_
    refine sq (v := (.bool true)) hF3 (wantedS rfl) (run_lss rfl (hF3.ev 7 rfl) (hF3.ev 9 rfl) (decide_eq_true (by omega))) rfl (by decide) fun a4 hF4 => ?_
    refine sqEnd ?_
    clear hF0 hF1 hF2 hF3
    refine nx ?_
    refine wp_cond_true (hF4.ev 10 rfl) ?_
    refine wp_skip ?_
    refine nx ?_
    refine wp_seq ?_
    refine wp_block ?_
    obtain ⟨KL, hKL⟩ : ∃ KL, KL = [kval v5, kval (.agg (cells8 k)), kval v, kval (.int .i64 (i : Int)), kval (slPtr v (i * 1)), kval (.string ⟨x.toArray⟩), kstrs [x], kval (.agg (cells8 (keyedS k x))), krow w1.heap.size 54 (cells8 (keyedS k x)) 1] := ⟨_, rfl⟩
    have K0 : KL.getD 0 kany = kval v5 := by rw [hKL]; rfl
    have K1 : KL.getD 1 kany = kval (.agg (cells8 k)) := by rw [hKL]; rfl
    have K2 : KL.getD 2 kany = kval v := by rw [hKL]; rfl
    have K3 : KL.getD 3 kany = kval (.int .i64 (i : Int)) := by rw [hKL]; rfl
    have K4 : KL.getD 4 kany = kval (slPtr v (i * 1)) := by rw [hKL]; rfl
    have K5 : KL.getD 5 kany = kval (.string ⟨x.toArray⟩) := by rw [hKL]; rfl
    have K6 : KL.getD 6 kany = kstrs [x] := by rw [hKL]; rfl
    have K7 : KL.getD 7 kany = kval (.agg (cells8 (keyedS k x))) := by rw [hKL]; rfl
    have K8 : KL.getD 8 kany = krow w1.heap.size 54 (cells8 (keyedS k x)) 1 := by rw [hKL]; rfl
    have HKL : KL.length ≤ 9 := by rw [hKL]; exact Nat.le_refl _
    clear hKL
    refine wp_region_kdTail2 26 9 (by kernel_rfl) (by kernel_rfl) (by kernel_rfl) (by kernel_rfl) hF4.size KL HKL ?_ ?_
    · refine ⟨?_, ?_, ?_, ?_, ?_, ?_, ?_, ?_, ?_, trivial⟩
      · refine asksH_mk fun a W hS hh hd => ⟨wanted_yes rfl, ?_⟩
        exact giv_run (run_mv rfl (eval_tmp (hh 5 _ rfl (hF4.at 5 rfl)))) K0
      · refine asksH_mk fun a W hS hh hd => ⟨wanted_yes rfl, ?_⟩
        exact giv_run (run_ldB rfl (eval_tmp (hh 2 _ rfl (hF4.at 2 rfl))) ((hM0.grow hS).at 0 rfl) Tryd.underlying24 rfl sz32k (szOf hLk)) K1
      · refine asksH_mk fun a W hS hh hd => ⟨wanted_yes rfl, ?_⟩
        exact giv_run (run_mv rfl (eval_tmp (hh 1 _ rfl (hF4.at 1 rfl)))) K2
      · refine asksH_mk fun a W hS hh hd => ⟨wanted_yes rfl, ?_⟩
        exact giv_run (run_mv rfl (eval_tmp (hh 6 _ rfl (hF4.at 6 rfl)))) K3
      · refine asksH_mk fun a W hS hh hd => ⟨wanted_yes rfl, ?_⟩
        exact giv_run (run_atP (i := i) rfl (eval_tmp (hd.val (j := 2) (s := 15) (by kernel_rfl) K2)) (eval_tmp (hd.val (j := 3) (s := 16) (by kernel_rfl) K3)) rfl (hV.below (hM0.grow hS).below) (by omega) elStr.un (by kernel_rfl)) K4
      · refine asksH_mk fun a W hS hh hd => ⟨wanted_yes rfl, ?_⟩
        exact giv_run (run_ldP rfl (eval_tmp (hd.val (j := 4) (s := 17) (by kernel_rfl) K4)) (hV.below (hM0.grow hS).below) (map_at hx) (by kernel_rfl)) K5
      · refine asksH_mk fun a W hS hh hd => ⟨wanted_yes rfl, ?_⟩
        exact giv_strs [x] 9 (run_strs1 rfl (eval_tmp (hd.val (j := 5) (s := 18) (by kernel_rfl) K5))) K6
      · refine asksH_mk fun a W hS hh hd => ⟨wanted_yes rfl, ?_⟩
        obtain ⟨v6, e6, s6⟩ := hd.strs (j := 6) (s := 19) (by kernel_rfl) K6
        exact giv_call (run_call rfl Tryd.func38 (by kernel_rfl) rfl (mapE2 (eval_tmp (hd.val (j := 1) (s := 14) (by kernel_rfl) K1)) (eval_tmp e6))) (rkeyed1 k x _ W hLk s6 (by first | omega | decide | (simp; done) | (simp; omega))) K7
      · refine asksH_mk fun a W hS hh hd => ⟨wanted_yes rfl, ?_⟩
        exact giv_row hS.size 54 (cells8 (keyedS k x)) 1 (run_digs1 rfl (eval_tmp (hd.val (j := 7) (s := 20) (by kernel_rfl) K7)) (keyedS_len _ _)) K8
    · intro a5 w2 hb2 hK
      have e0 := hK.hval (i := 0) (s := 13) rfl (by kernel_rfl) K0
      have e1 := hK.hval (i := 1) (s := 14) rfl (by kernel_rfl) K1
      have e2 := hK.hval (i := 2) (s := 15) rfl (by kernel_rfl) K2
      have e3 := hK.hval (i := 3) (s := 16) rfl (by kernel_rfl) K3
      have e4 := hK.hval (i := 4) (s := 17) rfl (by kernel_rfl) K4
      have e5 := hK.hval (i := 5) (s := 18) rfl (by kernel_rfl) K5
      obtain ⟨v1, e6, hsv1⟩ := hK.hget (i := 6) (s := 19) rfl (by kernel_rfl)
      rw [K6] at hsv1
      have e7 := hK.hval (i := 7) (s := 20) rfl (by kernel_rfl) K7
      obtain ⟨v2, e8, hpv2⟩ := hK.hget (i := 8) (s := 21) rfl (by kernel_rfl)
      rw [K8] at hpv2
      obtain ⟨g3, hgg3, rfl, hBg3⟩ := hpv2
      have hF5 : Fr a5 26 [(1, v), (2, (.pointer (some ⟨g0, 0, none⟩))), (5, v5), (6, (.int .i64 (i : Int))), (7, (.int .i64 (i : Int))), (8, v), (9, (.int .i64 (l.length : Int))), (10, (.bool true)), (13, v5), (21, (.slice (some ⟨g3, 0, none⟩) 1 1))] := (hK.hfr hF4 [v5, (.agg (cells8 k)), v, (.int .i64 (i : Int)), (slPtr v (i * 1)), (.string ⟨x.toArray⟩), v1, (.agg (cells8 (keyedS k x))), (.slice (some ⟨g3, 0, none⟩) 1 1)] ⟨e0, e1, e2, e3, e4, e5, e6, e7, e8, trivial⟩).sub ⟨rfl, rfl, rfl, rfl, rfl, rfl, rfl, rfl, rfl, rfl, trivial⟩
      have hM1 := hM0.add hb2 hgg3 hBg3
      have hO1 := hO0.add (S := isB 54 (cells8 (keyedS k x))) hb2 hgg3
      clear hK K0 e0 K1 e1 K2 e2 K3 e3 K4 e4 K5 e5 K6 e6 K7 e7 K8 e8 HKL
      simp only [List.drop_succ_cons, List.drop_zero]
      refine sqAppend (news := (dgC (keyedS k x))) elDig hF5 hM1 hO1 rfl rfl (hF5.ev 13 rfl) (hF5.ev 21 rfl) (dgC_len1 _) (blkNewsD (keyedS_len _ _) (hM1.at 0 rfl)) (dgC_one _) (by unfold maxLen; omega) (by omega) rfl (by decide) fun v4 a6 w3 hO2 hM2 hnilv4 hF6 => ?_
      refine sq (v := v4) hF6 (wantedS rfl) (run_as rfl (hF6.ev 22 rfl)) rfl (by decide) fun a7 hF7 => ?_
      refine sqEnd ?_
      clear hF4 hF5 hF6 hM0 hM1
      refine bkEnd ?_
      refine nx ?_
      refine wp_region_lit ?_
      refine sq (v := (.int .i64 (i : Int))) hF7 (wantedS rfl) (run_mv rfl (hF7.ev 6 rfl)) rfl (by decide) fun a8 hF8 => ?_
      refine sq (v := (.int .i64 ((i + 1 : Nat) : Int))) hF8 (wantedS rfl) (run_add (r := ((i + 1 : Nat) : Int)) rfl (hF8.ev 11 rfl) rfl (by rw [IntKind.wrap_i64]; omega)) rfl (by decide) fun a9 hF9 => ?_
      refine sq (v := (.int .i64 ((i + 1 : Nat) : Int))) hF9 (wantedS rfl) (run_as rfl (hF9.ev 12 rfl)) rfl (by decide) fun a10 hF10 => ?_
      refine sqEnd ?_
      clear hF7 hF8 hF9
      refine nx ?_
      exact ⟨_, by omega, i + 1, v4, by omega, rfl, by rw [hxs]; exact hO2.sub (.cons _ (.cons_cons _ .slnil)), hF10.sub ⟨rfl, rfl, rfl, rfl, trivial⟩, hM2.sub (.cons _ (.cons_cons _ .slnil))⟩
  · have hie : i = l.length := by omega
    refine wp_seq ?_
    refine wp_seq ?_
    refine wp_region_lit ?_
    refine sq (v := (.int .i64 (i : Int))) hF0 (wantedS rfl) (run_mv rfl (hF0.ev 6 rfl)) rfl (by decide) fun a1 hF1 => ?_
    refine sq (v := v) hF1 (wantedS rfl) (run_mv rfl (hF1.ev 1 rfl)) rfl (by decide) fun a2 hF2 => ?_
    refine sq (v := (.int .i64 (l.length : Int))) hF2 (wantedS rfl) (run_lenS rfl (hF2.ev 8 rfl) (hV.below hM0.below) rfl Tryd.underlying34) rfl (by decide) fun a3 hF3 => ?_
    refine sq (v := (.bool false)) hF3 (wantedS rfl) (run_lss rfl (hF3.ev 7 rfl) (hF3.ev 9 rfl) (decide_eq_false (by omega))) rfl (by decide) fun a4 hF4 => ?_
    refine sqEnd ?_
    clear hF0 hF1 hF2 hF3
    refine nx ?_
    refine wp_cond_false (hF4.ev 10 rfl) ?_
    refine wp_exit ?_
    refine nxExit ?_
    refine nxExit ?_
    refine bkHere ?_
    refine nx ?_
    refine wp_seq ?_
    refine wp_region_lit ?_
    refine sq (v := v) hF4 (wantedS rfl) (run_mv rfl (hF4.ev 1 rfl)) rfl (by decide) fun a5 hF5 => ?_
    refine sq (v := v5) hF5 (wantedS rfl) (run_mv rfl (hF5.ev 5 rfl)) rfl (by decide) fun a6 hF6 => ?_
    refine sqC (v := (.bool (unlikeS l (l.map (keyedS k))))) hF6 hM0 (wantedS rfl) (run_call rfl Tryd.func40 (by kernel_rfl) rfl (mapE2 (hF6.ev 23 rfl) (hF6.ev 24 rfl))) rfl (by decide) (unlike_any l (l.map (keyedS k)) v v5 w1 (hV.below hM0.below) (by have hq := Sl.own hO0; rw [hie, List.take_length] at hq; rw [List.length_map]; exact hq) (List.length_map ..) (fun d hd => by obtain ⟨x, _, rfl⟩ := List.mem_map.1 hd; exact keyedS_len _ _) hl) fun a7 w2 hb2 hF7 hM1 => ?_
    have hO1 := hO0.grow hb2
    refine sq (v := (.bool (unlikeS l (l.map (keyedS k))))) hF7 (wantedS rfl) (run_as rfl (hF7.ev 25 rfl)) rfl (by decide) fun a8 hF8 => ?_
    refine sqEnd ?_
    clear hF4 hF5 hF6 hF7 hM0
    refine nx ?_
    refine wp_ret ?_
    exact ret1 hF8 rfl rfl ⟨rfl, hM1.below⟩
end Go.Proofs.YtioioibcldgknaaDoor
