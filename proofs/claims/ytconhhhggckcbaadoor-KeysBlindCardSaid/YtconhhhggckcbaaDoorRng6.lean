/- The walk of the laws' apart. Printed by gen_key20.py. -/
import Derived.Test.YtconhhhggckcbaaDoorRng5
import Derived.Test.YtconhhhggckcbaaDoorRef04B
namespace Go.Proofs.YtconhhhggckcbaaDoor
open Go.RowKit

/-- keys so far apart. -/
def apS (l : List (List UInt8)) (i k : Nat) : Prop := ∀ (p q : Nat) (x y : List UInt8), l[p]? = some x → l[q]? = some y → q < p → (p < i ∨ (p = i ∧ q < k)) → x ≠ y ∧ keyedS x checkT ≠ keyedS y checkT
theorem apS_zero (l : List (List UInt8)) : apS l 0 0 := fun p q x y _ _ _ h => by omega
theorem apS_next {l : List (List UInt8)} {i : Nat} (h : apS l i i) : apS l (i + 1) 0 := fun p q x y h1 h2 h3 h4 => h p q x y h1 h2 h3 (by omega)
theorem apS_step {l : List (List UInt8)} {i k : Nat} {x y : List UInt8} (h : apS l i k) (hx : l[i]? = some x) (hy : l[k]? = some y) (h1 : x ≠ y) (h2 : keyedS x checkT ≠ keyedS y checkT) : apS l i (k + 1) := by
  intro p q x' y' hp hq hqp hc
  by_cases he : p = i ∧ q = k
  · obtain ⟨rfl, rfl⟩ := he
    rw [hx] at hp
    rw [hy] at hq
    injection hp with hp
    injection hq with hq
    subst hp hq
    exact ⟨h1, h2⟩
  · exact h p q x' y' hp hq hqp (by omega)
attribute [local irreducible] sealS keyedS nonceS openS
set_option maxRecDepth 100000 in
set_option maxHeartbeats 1000000 in
theorem apart38_any (l : List (List UInt8)) (v : Value) (w : World) (hV : Sl w v 32 l.length (l.flatMap dgC)) (h32 : ∀ k ∈ l, k.length = 32) (hl : l.length < 2 ^ 36) : Calls Tryd.prog 25 #[v] w fun e w' => (∃ b : Bool, e = .returned (.bool b) ∧ (b = true → ∀ (p q : Nat) (x y : List UInt8), l[p]? = some x → l[q]? = some y → q < p → x ≠ y ∧ keyedS x checkT ≠ keyedS y checkT)) ∧ Below w.heap.size w w' := by
  refine walk_enter Tryd.func25 rfl rfl rfl fun a0 F0 => ?_
  have M0 := Mem.new w
  refine wsl ?_
  refine sr (v := (.bool false)) F0 (run_as rfl rfl) rfl rfl rfl fun a1 F1 => ?_
  refine sn ?_
  clear F0
  refine wp_seq ?_
  refine wsl ?_
  refine sr (v := (.int .i64 0)) F1 (run_as rfl rfl) rfl rfl rfl fun a2 F2 => ?_
  refine sn ?_
  clear F1
  refine wp_block ?_
  refine wkLoop (fun m a0 w2 => ∃ i : Nat, i ≤ l.length ∧ m = l.length - i ∧ apS l i 0 ∧ Fr a0 40 [(0, v), (3, .int .i64 (i : Int))] ∧ Mem w [] w2) l.length ⟨0, Nat.zero_le _, rfl, apS_zero l, F2.sub ⟨rfl, rfl, trivial⟩, M0⟩ ?_
  rintro m a0 w1 ⟨i, hi, rfl, hap, F0, M0⟩
  by_cases h1 : i < l.length
  · obtain ⟨x, hx⟩ : ∃ x, l[i]? = some x := ⟨l[i], List.getElem?_eq_getElem h1⟩
    have hLx := h32 x (List.mem_of_getElem? hx)
    refine wp_seq ?_
    refine wsl ?_
    refine mvS F0 rfl rfl rfl rfl rfl fun a1 F1 => ?_
    refine mvS F1 rfl rfl rfl rfl rfl fun a2 F2 => ?_
    refine sr F2 (run_lenS rfl (F2.ev 6 rfl) (hV.below M0.below) rfl Tryd.underlying28) rfl rfl rfl fun a3 F3 => ?_
    refine sr (v := (.bool true)) F3 (run_lss rfl (F3.ev 5 rfl) (F3.ev 7 rfl) (decide_eq_true (by omega))) rfl rfl rfl fun a4 F4 => ?_
    refine sn ?_
    clear F0 F1 F2 F3
    refine cts (F4.ev 8 rfl) ?_
    refine wp_seq ?_
    refine wp_block ?_
    refine wsl ?_
    refine sr (v := (.int .i64 0)) F4 (run_as rfl rfl) rfl rfl rfl fun a5 F5 => ?_
    refine sn ?_
    clear F4
    refine wp_block ?_
    refine wkLoop (fun m a0 w2 => ∃ k : Nat, k ≤ i ∧ m = i - k ∧ apS l i k ∧ Fr a0 40 [(0, v), (3, .int .i64 (i : Int)), (4, .int .i64 (k : Int))] ∧ Mem w [] w2) i ⟨0, Nat.zero_le _, rfl, hap, F5.sub ⟨rfl, rfl, rfl, trivial⟩, M0⟩ ?_
    rintro m a0 w1 ⟨k, hk, rfl, hapk, F0, M0⟩
    by_cases h2 : k < i
    · obtain ⟨y, hy⟩ : ∃ y, l[k]? = some y := ⟨l[k]'(by omega), List.getElem?_eq_getElem (by omega)⟩
      have hLy := h32 y (List.mem_of_getElem? hy)
      by_cases hxy : x = y
      · skip
        refine wp_seq ?_
        refine wsl ?_
        refine mvS F0 rfl rfl rfl rfl rfl fun a1 F1 => ?_
        refine mvS F1 rfl rfl rfl rfl rfl fun a2 F2 => ?_
        refine sr (v := (.bool true)) F2 (run_lss rfl (F2.ev 11 rfl) (F2.ev 12 rfl) (decide_eq_true (by omega))) rfl rfl rfl fun a3 F3 => ?_
        refine sn ?_
        clear F0 F1 F2
        refine cts (F3.ev 13 rfl) ?_
        refine wp_seq ?_
        refine wp_block ?_
        refine wp_seq ?_
        obtain ⟨KL, hKL⟩ : ∃ KL, KL = [kval v, kval (.int .i64 (i : Int)), kval (slPtr v (i * 32)), kval (.agg (cells8 x)), kval v, kval (.int .i64 (k : Int)), kval (slPtr v (k * 32)), kval (.agg (cells8 y)), kval (.bool true), kval (.bool true), kval undef, kval undef, kval undef, kval undef, kval undef, kval undef, kval undef, kval undef, kval undef, kval undef, kval undef, kval undef, kval undef, kval (.bool true)] := ⟨_, rfl⟩
        have K0 := getK hKL 0
        have K1 := getK hKL 1
        have K2 := getK hKL 2
        have K3 := getK hKL 3
        have K4 := getK hKL 4
        have K5 := getK hKL 5
        have K6 := getK hKL 6
        have K7 := getK hKL 7
        have K8 := getK hKL 8
        have K9 := getK hKL 9
        have K10 := getK hKL 10
        have K11 := getK hKL 11
        have K12 := getK hKL 12
        have K13 := getK hKL 13
        have K14 := getK hKL 14
        have K15 := getK hKL 15
        have K16 := getK hKL 16
        have K17 := getK hKL 17
        have K18 := getK hKL 18
        have K19 := getK hKL 19
        have K20 := getK hKL 20
        have K21 := getK hKL 21
        have K22 := getK hKL 22
        have K23 := getK hKL 23
        clear hKL
        refine wp_region_kd 40 (by kernel_rfl) (by kernel_rfl) (by kernel_rfl) F3.size KL ?_ ?_
        · refine ⟨?_, ?_, ?_, ?_, ?_, ?_, ?_, ?_, ?_, ?_, ?_, ?_, ?_, ?_, ?_, ?_, ?_, ?_, ?_, ?_, ?_, ?_, ?_, ?_, trivial⟩
          · exact asksY rfl fun a W hS hh hd => giv_run (run_mv rfl (eval_tmp (hh 0 _ rfl (F3.at 0 rfl)))) K0
          · exact asksY rfl fun a W hS hh hd => giv_run (run_mv rfl (eval_tmp (hh 3 _ rfl (F3.at 3 rfl)))) K1
          · exact asksY rfl fun a W hS hh hd => giv_run (run_atP (i := i) rfl (eval_tmp (hd.vl 0 16 (by kernel_rfl) K0)) (eval_tmp (hd.vl 1 17 (by kernel_rfl) K1)) rfl (hV.below (M0.grow hS).below) (by omega) elKey.un (by kernel_rfl)) K2
          · exact asksY rfl fun a W hS hh hd => giv_run (ldKey hLx (run_ldPS (ys := dgC x) rfl (eval_tmp (hd.vl 2 18 (by kernel_rfl) K2)) (hV.below (M0.grow hS).below) (by omega) (fun j u hj => flat_at dgC_len hx j hj) (by kernel_rfl) (by kernel_rfl))) K3
          · exact asksY rfl fun a W hS hh hd => giv_run (run_mv rfl (eval_tmp (hh 0 _ rfl (F3.at 0 rfl)))) K4
          · exact asksY rfl fun a W hS hh hd => giv_run (run_mv rfl (eval_tmp (hh 4 _ rfl (F3.at 4 rfl)))) K5
          · exact asksY rfl fun a W hS hh hd => giv_run (run_atP (i := k) rfl (eval_tmp (hd.vl 4 20 (by kernel_rfl) K4)) (eval_tmp (hd.vl 5 21 (by kernel_rfl) K5)) rfl (hV.below (M0.grow hS).below) (by omega) elKey.un (by kernel_rfl)) K6
          · exact asksY rfl fun a W hS hh hd => giv_run (ldKey hLy (run_ldPS (ys := dgC y) rfl (eval_tmp (hd.vl 6 22 (by kernel_rfl) K6)) (hV.below (M0.grow hS).below) (by omega) (fun j u hj => flat_at dgC_len hy j hj) (by kernel_rfl) (by kernel_rfl))) K7
          · exact asksY rfl fun a W hS hh hd => giv_run (run_eqKB hLx hLy (beq_iff_eq.2 hxy) rfl (eval_tmp (hd.vl 3 19 (by kernel_rfl) K3)) (eval_tmp (hd.vl 7 23 (by kernel_rfl) K7))) K8
          · exact asksY rfl fun a W hS hh hd => giv_run (run_mv rfl (eval_tmp (hd.vl 8 24 (by kernel_rfl) K8))) K9
          · exact asks_skip fun a W hS hh hd => ⟨unwanted_of (j := 9) (s := 25) (want := false) (by kernel_rfl) (hd.vl 9 25 (by kernel_rfl) K9), show kT KL 10 undef W by unfold kT; rw [K10]; rfl⟩
          · exact asks_skip fun a W hS hh hd => ⟨unwanted_of (j := 9) (s := 25) (want := false) (by kernel_rfl) (hd.vl 9 25 (by kernel_rfl) K9), show kT KL 11 undef W by unfold kT; rw [K11]; rfl⟩
          · exact asks_skip fun a W hS hh hd => ⟨unwanted_of (j := 9) (s := 25) (want := false) (by kernel_rfl) (hd.vl 9 25 (by kernel_rfl) K9), show kT KL 12 undef W by unfold kT; rw [K12]; rfl⟩
          · exact asks_skip fun a W hS hh hd => ⟨unwanted_of (j := 9) (s := 25) (want := false) (by kernel_rfl) (hd.vl 9 25 (by kernel_rfl) K9), show kT KL 13 undef W by unfold kT; rw [K13]; rfl⟩
          · exact asks_skip fun a W hS hh hd => ⟨unwanted_of (j := 9) (s := 25) (want := false) (by kernel_rfl) (hd.vl 9 25 (by kernel_rfl) K9), show kT KL 14 undef W by unfold kT; rw [K14]; rfl⟩
          · exact asks_skip fun a W hS hh hd => ⟨unwanted_of (j := 9) (s := 25) (want := false) (by kernel_rfl) (hd.vl 9 25 (by kernel_rfl) K9), show kT KL 15 undef W by unfold kT; rw [K15]; rfl⟩
          · exact asks_skip fun a W hS hh hd => ⟨unwanted_of (j := 9) (s := 25) (want := false) (by kernel_rfl) (hd.vl 9 25 (by kernel_rfl) K9), show kT KL 16 undef W by unfold kT; rw [K16]; rfl⟩
          · exact asks_skip fun a W hS hh hd => ⟨unwanted_of (j := 9) (s := 25) (want := false) (by kernel_rfl) (hd.vl 9 25 (by kernel_rfl) K9), show kT KL 17 undef W by unfold kT; rw [K17]; rfl⟩
          · exact asks_skip fun a W hS hh hd => ⟨unwanted_of (j := 9) (s := 25) (want := false) (by kernel_rfl) (hd.vl 9 25 (by kernel_rfl) K9), show kT KL 18 undef W by unfold kT; rw [K18]; rfl⟩
          · exact asks_skip fun a W hS hh hd => ⟨unwanted_of (j := 9) (s := 25) (want := false) (by kernel_rfl) (hd.vl 9 25 (by kernel_rfl) K9), show kT KL 19 undef W by unfold kT; rw [K19]; rfl⟩
          · exact asks_skip fun a W hS hh hd => ⟨unwanted_of (j := 9) (s := 25) (want := false) (by kernel_rfl) (hd.vl 9 25 (by kernel_rfl) K9), show kT KL 20 undef W by unfold kT; rw [K20]; rfl⟩
          · exact asks_skip fun a W hS hh hd => ⟨unwanted_of (j := 9) (s := 25) (want := false) (by kernel_rfl) (hd.vl 9 25 (by kernel_rfl) K9), show kT KL 21 undef W by unfold kT; rw [K21]; rfl⟩
          · exact asks_skip fun a W hS hh hd => ⟨unwanted_of (j := 9) (s := 25) (want := false) (by kernel_rfl) (hd.vl 9 25 (by kernel_rfl) K9), show kT KL 22 undef W by unfold kT; rw [K22]; rfl⟩
          · exact asksY rfl fun a W hS hh hd => giv_run (run_pick rfl (eval_tmp (hd.vl 9 25 (by kernel_rfl) K9)) rfl (eval_tmp (hd.vl 22 38 (by kernel_rfl) K22))) K23
        · intro a4 w2 hb2 hK
          have e0 := hK.vl 0 16 (by kernel_rfl) K0
          have e1 := hK.vl 1 17 (by kernel_rfl) K1
          have e2 := hK.vl 2 18 (by kernel_rfl) K2
          have e3 := hK.vl 3 19 (by kernel_rfl) K3
          have e4 := hK.vl 4 20 (by kernel_rfl) K4
          have e5 := hK.vl 5 21 (by kernel_rfl) K5
          have e6 := hK.vl 6 22 (by kernel_rfl) K6
          have e7 := hK.vl 7 23 (by kernel_rfl) K7
          have e8 := hK.vl 8 24 (by kernel_rfl) K8
          have e9 := hK.vl 9 25 (by kernel_rfl) K9
          have e10 := hK.vl 10 26 (by kernel_rfl) K10
          have e11 := hK.vl 11 27 (by kernel_rfl) K11
          have e12 := hK.vl 12 28 (by kernel_rfl) K12
          have e13 := hK.vl 13 29 (by kernel_rfl) K13
          have e14 := hK.vl 14 30 (by kernel_rfl) K14
          have e15 := hK.vl 15 31 (by kernel_rfl) K15
          have e16 := hK.vl 16 32 (by kernel_rfl) K16
          have e17 := hK.vl 17 33 (by kernel_rfl) K17
          have e18 := hK.vl 18 34 (by kernel_rfl) K18
          have e19 := hK.vl 19 35 (by kernel_rfl) K19
          have e20 := hK.vl 20 36 (by kernel_rfl) K20
          have e21 := hK.vl 21 37 (by kernel_rfl) K21
          have e22 := hK.vl 22 38 (by kernel_rfl) K22
          have e23 := hK.vl 23 39 (by kernel_rfl) K23
          have F4 : Fr a4 40 [(0, v), (3, (.int .i64 (i : Int))), (4, (.int .i64 (k : Int))), (11, (.int .i64 (k : Int))), (12, (.int .i64 (i : Int))), (13, (.bool true)), (39, (.bool true))] := (hK.fr F3 [_, _, _, _, _, _, _, _, _, _, _, _, _, _, _, _, _, _, _, _, _, _, _, _] ⟨e0, e1, e2, e3, e4, e5, e6, e7, e8, e9, e10, e11, e12, e13, e14, e15, e16, e17, e18, e19, e20, e21, e22, e23, trivial⟩).sub ⟨rfl, rfl, rfl, rfl, rfl, rfl, rfl, trivial⟩
          have M1 := M0.grow hb2
          clear hK K0 e0 K1 e1 K2 e2 K3 e3 K4 e4 K5 e5 K6 e6 K7 e7 K8 e8 K9 e9 K10 e10 K11 e11 K12 e12 K13 e13 K14 e14 K15 e15 K16 e16 K17 e17 K18 e18 K19 e19 K20 e20 K21 e21 K22 e22 K23 e23
          clear F3 M0
          refine nx ?_
          refine wp_cond_true (F4.ev 39 rfl) ?_
          refine wsl ?_
          refine sr (v := (.bool false)) F4 (run_as rfl rfl) rfl rfl rfl fun a5 F5 => ?_
          refine sn ?_
          clear F4
          refine wp_ret ?_
          refine bkRet ?_
          refine nxRet ?_
          refine nxRet ?_
          refine bkRet ?_
          refine bkRet ?_
          refine nxRet ?_
          refine nxRet ?_
          refine bkRet ?_
          refine nxRet ?_
          exact ret1 F5 rfl rfl ⟨⟨false, rfl, fun h => by cases h⟩, M1.below⟩
      by_cases hdq : keyedS x [99, 104, 101, 99, 107] = keyedS y [99, 104, 101, 99, 107]
      · skip
        refine wp_seq ?_
        refine wsl ?_
        refine mvS F0 rfl rfl rfl rfl rfl fun a1 F1 => ?_
        refine mvS F1 rfl rfl rfl rfl rfl fun a2 F2 => ?_
        refine sr (v := (.bool true)) F2 (run_lss rfl (F2.ev 11 rfl) (F2.ev 12 rfl) (decide_eq_true (by omega))) rfl rfl rfl fun a3 F3 => ?_
        refine sn ?_
        clear F0 F1 F2
        refine cts (F3.ev 13 rfl) ?_
        refine wp_seq ?_
        refine wp_block ?_
        refine wp_seq ?_
        obtain ⟨KL, hKL⟩ : ∃ KL, KL = [kval v, kval (.int .i64 (i : Int)), kval (slPtr v (i * 32)), kval (.agg (cells8 x)), kval v, kval (.int .i64 (k : Int)), kval (slPtr v (k * 32)), kval (.agg (cells8 y)), kval (.bool false), kval (.bool false), kval v, kval (.int .i64 (i : Int)), kval (slPtr v (i * 32)), kval (.agg (cells8 x)), kstrs [[99, 104, 101, 99, 107]], kval (.agg (cells8 (keyedS x [99, 104, 101, 99, 107]))), kval v, kval (.int .i64 (k : Int)), kval (slPtr v (k * 32)), kval (.agg (cells8 y)), kstrs [[99, 104, 101, 99, 107]], kval (.agg (cells8 (keyedS y [99, 104, 101, 99, 107]))), kval (.bool true), kval (.bool true)] := ⟨_, rfl⟩
        have K0 := getK hKL 0
        have K1 := getK hKL 1
        have K2 := getK hKL 2
        have K3 := getK hKL 3
        have K4 := getK hKL 4
        have K5 := getK hKL 5
        have K6 := getK hKL 6
        have K7 := getK hKL 7
        have K8 := getK hKL 8
        have K9 := getK hKL 9
        have K10 := getK hKL 10
        have K11 := getK hKL 11
        have K12 := getK hKL 12
        have K13 := getK hKL 13
        have K14 := getK hKL 14
        have K15 := getK hKL 15
        have K16 := getK hKL 16
        have K17 := getK hKL 17
        have K18 := getK hKL 18
        have K19 := getK hKL 19
        have K20 := getK hKL 20
        have K21 := getK hKL 21
        have K22 := getK hKL 22
        have K23 := getK hKL 23
        clear hKL
        refine wp_region_kd 40 (by kernel_rfl) (by kernel_rfl) (by kernel_rfl) F3.size KL ?_ ?_
        · refine ⟨?_, ?_, ?_, ?_, ?_, ?_, ?_, ?_, ?_, ?_, ?_, ?_, ?_, ?_, ?_, ?_, ?_, ?_, ?_, ?_, ?_, ?_, ?_, ?_, trivial⟩
          · exact asksY rfl fun a W hS hh hd => giv_run (run_mv rfl (eval_tmp (hh 0 _ rfl (F3.at 0 rfl)))) K0
          · exact asksY rfl fun a W hS hh hd => giv_run (run_mv rfl (eval_tmp (hh 3 _ rfl (F3.at 3 rfl)))) K1
          · exact asksY rfl fun a W hS hh hd => giv_run (run_atP (i := i) rfl (eval_tmp (hd.vl 0 16 (by kernel_rfl) K0)) (eval_tmp (hd.vl 1 17 (by kernel_rfl) K1)) rfl (hV.below (M0.grow hS).below) (by omega) elKey.un (by kernel_rfl)) K2
          · exact asksY rfl fun a W hS hh hd => giv_run (ldKey hLx (run_ldPS (ys := dgC x) rfl (eval_tmp (hd.vl 2 18 (by kernel_rfl) K2)) (hV.below (M0.grow hS).below) (by omega) (fun j u hj => flat_at dgC_len hx j hj) (by kernel_rfl) (by kernel_rfl))) K3
          · exact asksY rfl fun a W hS hh hd => giv_run (run_mv rfl (eval_tmp (hh 0 _ rfl (F3.at 0 rfl)))) K4
          · exact asksY rfl fun a W hS hh hd => giv_run (run_mv rfl (eval_tmp (hh 4 _ rfl (F3.at 4 rfl)))) K5
          · exact asksY rfl fun a W hS hh hd => giv_run (run_atP (i := k) rfl (eval_tmp (hd.vl 4 20 (by kernel_rfl) K4)) (eval_tmp (hd.vl 5 21 (by kernel_rfl) K5)) rfl (hV.below (M0.grow hS).below) (by omega) elKey.un (by kernel_rfl)) K6
          · exact asksY rfl fun a W hS hh hd => giv_run (ldKey hLy (run_ldPS (ys := dgC y) rfl (eval_tmp (hd.vl 6 22 (by kernel_rfl) K6)) (hV.below (M0.grow hS).below) (by omega) (fun j u hj => flat_at dgC_len hy j hj) (by kernel_rfl) (by kernel_rfl))) K7
          · exact asksY rfl fun a W hS hh hd => giv_run (run_eqKB hLx hLy (beq_eq_false_iff_ne.2 hxy) rfl (eval_tmp (hd.vl 3 19 (by kernel_rfl) K3)) (eval_tmp (hd.vl 7 23 (by kernel_rfl) K7))) K8
          · exact asksY rfl fun a W hS hh hd => giv_run (run_mv rfl (eval_tmp (hd.vl 8 24 (by kernel_rfl) K8))) K9
          · refine asks_mk fun a W hS hh hd => ⟨wanted_of (j := 9) (s := 25) (by kernel_rfl) (hd.vl 9 25 (by kernel_rfl) K9), ?_⟩
            exact giv_run (run_mv rfl (eval_tmp (hh 0 _ rfl (F3.at 0 rfl)))) K10
          · refine asks_mk fun a W hS hh hd => ⟨wanted_of (j := 9) (s := 25) (by kernel_rfl) (hd.vl 9 25 (by kernel_rfl) K9), ?_⟩
            exact giv_run (run_mv rfl (eval_tmp (hh 3 _ rfl (F3.at 3 rfl)))) K11
          · refine asks_mk fun a W hS hh hd => ⟨wanted_of (j := 9) (s := 25) (by kernel_rfl) (hd.vl 9 25 (by kernel_rfl) K9), ?_⟩
            exact giv_run (run_atP (i := i) rfl (eval_tmp (hd.vl 10 26 (by kernel_rfl) K10)) (eval_tmp (hd.vl 11 27 (by kernel_rfl) K11)) rfl (hV.below (M0.grow hS).below) (by omega) elKey.un (by kernel_rfl)) K12
          · refine asks_mk fun a W hS hh hd => ⟨wanted_of (j := 9) (s := 25) (by kernel_rfl) (hd.vl 9 25 (by kernel_rfl) K9), ?_⟩
            exact giv_run (ldKey hLx (run_ldPS (ys := dgC x) rfl (eval_tmp (hd.vl 12 28 (by kernel_rfl) K12)) (hV.below (M0.grow hS).below) (by omega) (fun j u hj => flat_at dgC_len hx j hj) (by kernel_rfl) (by kernel_rfl))) K13
          · refine asks_mk fun a W hS hh hd => ⟨wanted_of (j := 9) (s := 25) (by kernel_rfl) (hd.vl 9 25 (by kernel_rfl) K9), ?_⟩
            exact giv_strs [[99, 104, 101, 99, 107]] 9 (run_strs1 rfl rfl) K14
          · refine asks_mk fun a W hS hh hd => ⟨wanted_of (j := 9) (s := 25) (by kernel_rfl) (hd.vl 9 25 (by kernel_rfl) K9), ?_⟩
            obtain ⟨v14, e14, s14⟩ := hd.strs (j := 14) (s := 30) (by kernel_rfl) K14
            exact giv_call (run_call rfl Tryd.func54 (by kernel_rfl) rfl (mapE2 (eval_tmp (hd.vl 13 29 (by kernel_rfl) K13)) (eval_tmp e14))) (rkeyed1 x [99, 104, 101, 99, 107] _ W hLx s14 (by first | omega | decide | (simp; done) | (simp; omega))) K15
          · refine asks_mk fun a W hS hh hd => ⟨wanted_of (j := 9) (s := 25) (by kernel_rfl) (hd.vl 9 25 (by kernel_rfl) K9), ?_⟩
            exact giv_run (run_mv rfl (eval_tmp (hh 0 _ rfl (F3.at 0 rfl)))) K16
          · refine asks_mk fun a W hS hh hd => ⟨wanted_of (j := 9) (s := 25) (by kernel_rfl) (hd.vl 9 25 (by kernel_rfl) K9), ?_⟩
            exact giv_run (run_mv rfl (eval_tmp (hh 4 _ rfl (F3.at 4 rfl)))) K17
          · refine asks_mk fun a W hS hh hd => ⟨wanted_of (j := 9) (s := 25) (by kernel_rfl) (hd.vl 9 25 (by kernel_rfl) K9), ?_⟩
            exact giv_run (run_atP (i := k) rfl (eval_tmp (hd.vl 16 32 (by kernel_rfl) K16)) (eval_tmp (hd.vl 17 33 (by kernel_rfl) K17)) rfl (hV.below (M0.grow hS).below) (by omega) elKey.un (by kernel_rfl)) K18
          · refine asks_mk fun a W hS hh hd => ⟨wanted_of (j := 9) (s := 25) (by kernel_rfl) (hd.vl 9 25 (by kernel_rfl) K9), ?_⟩
            exact giv_run (ldKey hLy (run_ldPS (ys := dgC y) rfl (eval_tmp (hd.vl 18 34 (by kernel_rfl) K18)) (hV.below (M0.grow hS).below) (by omega) (fun j u hj => flat_at dgC_len hy j hj) (by kernel_rfl) (by kernel_rfl))) K19
          · refine asks_mk fun a W hS hh hd => ⟨wanted_of (j := 9) (s := 25) (by kernel_rfl) (hd.vl 9 25 (by kernel_rfl) K9), ?_⟩
            exact giv_strs [[99, 104, 101, 99, 107]] 9 (run_strs1 rfl rfl) K20
          · refine asks_mk fun a W hS hh hd => ⟨wanted_of (j := 9) (s := 25) (by kernel_rfl) (hd.vl 9 25 (by kernel_rfl) K9), ?_⟩
            obtain ⟨v20, e20, s20⟩ := hd.strs (j := 20) (s := 36) (by kernel_rfl) K20
            exact giv_call (run_call rfl Tryd.func54 (by kernel_rfl) rfl (mapE2 (eval_tmp (hd.vl 19 35 (by kernel_rfl) K19)) (eval_tmp e20))) (rkeyed1 y [99, 104, 101, 99, 107] _ W hLy s20 (by first | omega | decide | (simp; done) | (simp; omega))) K21
          · refine asks_mk fun a W hS hh hd => ⟨wanted_of (j := 9) (s := 25) (by kernel_rfl) (hd.vl 9 25 (by kernel_rfl) K9), ?_⟩
            exact giv_run (run_eqDB (keyedS_len _ _) (keyedS_len _ _) (beq_iff_eq.2 hdq) rfl (eval_tmp (hd.vl 15 31 (by kernel_rfl) K15)) (eval_tmp (hd.vl 21 37 (by kernel_rfl) K21))) K22
          · exact asksY rfl fun a W hS hh hd => giv_run (run_pick rfl (eval_tmp (hd.vl 9 25 (by kernel_rfl) K9)) rfl (eval_tmp (hd.vl 22 38 (by kernel_rfl) K22))) K23
        · intro a4 w2 hb2 hK
          have e0 := hK.vl 0 16 (by kernel_rfl) K0
          have e1 := hK.vl 1 17 (by kernel_rfl) K1
          have e2 := hK.vl 2 18 (by kernel_rfl) K2
          have e3 := hK.vl 3 19 (by kernel_rfl) K3
          have e4 := hK.vl 4 20 (by kernel_rfl) K4
          have e5 := hK.vl 5 21 (by kernel_rfl) K5
          have e6 := hK.vl 6 22 (by kernel_rfl) K6
          have e7 := hK.vl 7 23 (by kernel_rfl) K7
          have e8 := hK.vl 8 24 (by kernel_rfl) K8
          have e9 := hK.vl 9 25 (by kernel_rfl) K9
          have e10 := hK.vl 10 26 (by kernel_rfl) K10
          have e11 := hK.vl 11 27 (by kernel_rfl) K11
          have e12 := hK.vl 12 28 (by kernel_rfl) K12
          have e13 := hK.vl 13 29 (by kernel_rfl) K13
          obtain ⟨v0, e14, hsv0⟩ := hK.strs (i := 14) (s := 30) (by kernel_rfl) K14
          have e15 := hK.vl 15 31 (by kernel_rfl) K15
          have e16 := hK.vl 16 32 (by kernel_rfl) K16
          have e17 := hK.vl 17 33 (by kernel_rfl) K17
          have e18 := hK.vl 18 34 (by kernel_rfl) K18
          have e19 := hK.vl 19 35 (by kernel_rfl) K19
          obtain ⟨v1, e20, hsv1⟩ := hK.strs (i := 20) (s := 36) (by kernel_rfl) K20
          have e21 := hK.vl 21 37 (by kernel_rfl) K21
          have e22 := hK.vl 22 38 (by kernel_rfl) K22
          have e23 := hK.vl 23 39 (by kernel_rfl) K23
          have F4 : Fr a4 40 [(0, v), (3, (.int .i64 (i : Int))), (4, (.int .i64 (k : Int))), (11, (.int .i64 (k : Int))), (12, (.int .i64 (i : Int))), (13, (.bool true)), (39, (.bool true))] := (hK.fr F3 [_, _, _, _, _, _, _, _, _, _, _, _, _, _, _, _, _, _, _, _, _, _, _, _] ⟨e0, e1, e2, e3, e4, e5, e6, e7, e8, e9, e10, e11, e12, e13, e14, e15, e16, e17, e18, e19, e20, e21, e22, e23, trivial⟩).sub ⟨rfl, rfl, rfl, rfl, rfl, rfl, rfl, trivial⟩
          have M1 := M0.grow hb2
          clear hK K0 e0 K1 e1 K2 e2 K3 e3 K4 e4 K5 e5 K6 e6 K7 e7 K8 e8 K9 e9 K10 e10 K11 e11 K12 e12 K13 e13 K14 e14 K15 e15 K16 e16 K17 e17 K18 e18 K19 e19 K20 e20 K21 e21 K22 e22 K23 e23
          clear F3 M0
          refine nx ?_
          refine wp_cond_true (F4.ev 39 rfl) ?_
          refine wsl ?_
          refine sr (v := (.bool false)) F4 (run_as rfl rfl) rfl rfl rfl fun a5 F5 => ?_
          refine sn ?_
          clear F4
          refine wp_ret ?_
          refine bkRet ?_
          refine nxRet ?_
          refine nxRet ?_
          refine bkRet ?_
          refine bkRet ?_
          refine nxRet ?_
          refine nxRet ?_
          refine bkRet ?_
          refine nxRet ?_
          exact ret1 F5 rfl rfl ⟨⟨false, rfl, fun h => by cases h⟩, M1.below⟩
      · skip
        refine wp_seq ?_
        refine wsl ?_
        refine mvS F0 rfl rfl rfl rfl rfl fun a1 F1 => ?_
        refine mvS F1 rfl rfl rfl rfl rfl fun a2 F2 => ?_
        refine sr (v := (.bool true)) F2 (run_lss rfl (F2.ev 11 rfl) (F2.ev 12 rfl) (decide_eq_true (by omega))) rfl rfl rfl fun a3 F3 => ?_
        refine sn ?_
        clear F0 F1 F2
        refine cts (F3.ev 13 rfl) ?_
        refine wp_seq ?_
        refine wp_block ?_
        refine wp_seq ?_
        obtain ⟨KL, hKL⟩ : ∃ KL, KL = [kval v, kval (.int .i64 (i : Int)), kval (slPtr v (i * 32)), kval (.agg (cells8 x)), kval v, kval (.int .i64 (k : Int)), kval (slPtr v (k * 32)), kval (.agg (cells8 y)), kval (.bool false), kval (.bool false), kval v, kval (.int .i64 (i : Int)), kval (slPtr v (i * 32)), kval (.agg (cells8 x)), kstrs [[99, 104, 101, 99, 107]], kval (.agg (cells8 (keyedS x [99, 104, 101, 99, 107]))), kval v, kval (.int .i64 (k : Int)), kval (slPtr v (k * 32)), kval (.agg (cells8 y)), kstrs [[99, 104, 101, 99, 107]], kval (.agg (cells8 (keyedS y [99, 104, 101, 99, 107]))), kval (.bool false), kval (.bool false)] := ⟨_, rfl⟩
        have K0 := getK hKL 0
        have K1 := getK hKL 1
        have K2 := getK hKL 2
        have K3 := getK hKL 3
        have K4 := getK hKL 4
        have K5 := getK hKL 5
        have K6 := getK hKL 6
        have K7 := getK hKL 7
        have K8 := getK hKL 8
        have K9 := getK hKL 9
        have K10 := getK hKL 10
        have K11 := getK hKL 11
        have K12 := getK hKL 12
        have K13 := getK hKL 13
        have K14 := getK hKL 14
        have K15 := getK hKL 15
        have K16 := getK hKL 16
        have K17 := getK hKL 17
        have K18 := getK hKL 18
        have K19 := getK hKL 19
        have K20 := getK hKL 20
        have K21 := getK hKL 21
        have K22 := getK hKL 22
        have K23 := getK hKL 23
        clear hKL
        refine wp_region_kd 40 (by kernel_rfl) (by kernel_rfl) (by kernel_rfl) F3.size KL ?_ ?_
        · refine ⟨?_, ?_, ?_, ?_, ?_, ?_, ?_, ?_, ?_, ?_, ?_, ?_, ?_, ?_, ?_, ?_, ?_, ?_, ?_, ?_, ?_, ?_, ?_, ?_, trivial⟩
          · exact asksY rfl fun a W hS hh hd => giv_run (run_mv rfl (eval_tmp (hh 0 _ rfl (F3.at 0 rfl)))) K0
          · exact asksY rfl fun a W hS hh hd => giv_run (run_mv rfl (eval_tmp (hh 3 _ rfl (F3.at 3 rfl)))) K1
          · exact asksY rfl fun a W hS hh hd => giv_run (run_atP (i := i) rfl (eval_tmp (hd.vl 0 16 (by kernel_rfl) K0)) (eval_tmp (hd.vl 1 17 (by kernel_rfl) K1)) rfl (hV.below (M0.grow hS).below) (by omega) elKey.un (by kernel_rfl)) K2
          · exact asksY rfl fun a W hS hh hd => giv_run (ldKey hLx (run_ldPS (ys := dgC x) rfl (eval_tmp (hd.vl 2 18 (by kernel_rfl) K2)) (hV.below (M0.grow hS).below) (by omega) (fun j u hj => flat_at dgC_len hx j hj) (by kernel_rfl) (by kernel_rfl))) K3
          · exact asksY rfl fun a W hS hh hd => giv_run (run_mv rfl (eval_tmp (hh 0 _ rfl (F3.at 0 rfl)))) K4
          · exact asksY rfl fun a W hS hh hd => giv_run (run_mv rfl (eval_tmp (hh 4 _ rfl (F3.at 4 rfl)))) K5
          · exact asksY rfl fun a W hS hh hd => giv_run (run_atP (i := k) rfl (eval_tmp (hd.vl 4 20 (by kernel_rfl) K4)) (eval_tmp (hd.vl 5 21 (by kernel_rfl) K5)) rfl (hV.below (M0.grow hS).below) (by omega) elKey.un (by kernel_rfl)) K6
          · exact asksY rfl fun a W hS hh hd => giv_run (ldKey hLy (run_ldPS (ys := dgC y) rfl (eval_tmp (hd.vl 6 22 (by kernel_rfl) K6)) (hV.below (M0.grow hS).below) (by omega) (fun j u hj => flat_at dgC_len hy j hj) (by kernel_rfl) (by kernel_rfl))) K7
          · exact asksY rfl fun a W hS hh hd => giv_run (run_eqKB hLx hLy (beq_eq_false_iff_ne.2 hxy) rfl (eval_tmp (hd.vl 3 19 (by kernel_rfl) K3)) (eval_tmp (hd.vl 7 23 (by kernel_rfl) K7))) K8
          · exact asksY rfl fun a W hS hh hd => giv_run (run_mv rfl (eval_tmp (hd.vl 8 24 (by kernel_rfl) K8))) K9
          · refine asks_mk fun a W hS hh hd => ⟨wanted_of (j := 9) (s := 25) (by kernel_rfl) (hd.vl 9 25 (by kernel_rfl) K9), ?_⟩
            exact giv_run (run_mv rfl (eval_tmp (hh 0 _ rfl (F3.at 0 rfl)))) K10
          · refine asks_mk fun a W hS hh hd => ⟨wanted_of (j := 9) (s := 25) (by kernel_rfl) (hd.vl 9 25 (by kernel_rfl) K9), ?_⟩
            exact giv_run (run_mv rfl (eval_tmp (hh 3 _ rfl (F3.at 3 rfl)))) K11
          · refine asks_mk fun a W hS hh hd => ⟨wanted_of (j := 9) (s := 25) (by kernel_rfl) (hd.vl 9 25 (by kernel_rfl) K9), ?_⟩
            exact giv_run (run_atP (i := i) rfl (eval_tmp (hd.vl 10 26 (by kernel_rfl) K10)) (eval_tmp (hd.vl 11 27 (by kernel_rfl) K11)) rfl (hV.below (M0.grow hS).below) (by omega) elKey.un (by kernel_rfl)) K12
          · refine asks_mk fun a W hS hh hd => ⟨wanted_of (j := 9) (s := 25) (by kernel_rfl) (hd.vl 9 25 (by kernel_rfl) K9), ?_⟩
            exact giv_run (ldKey hLx (run_ldPS (ys := dgC x) rfl (eval_tmp (hd.vl 12 28 (by kernel_rfl) K12)) (hV.below (M0.grow hS).below) (by omega) (fun j u hj => flat_at dgC_len hx j hj) (by kernel_rfl) (by kernel_rfl))) K13
          · refine asks_mk fun a W hS hh hd => ⟨wanted_of (j := 9) (s := 25) (by kernel_rfl) (hd.vl 9 25 (by kernel_rfl) K9), ?_⟩
            exact giv_strs [[99, 104, 101, 99, 107]] 9 (run_strs1 rfl rfl) K14
          · refine asks_mk fun a W hS hh hd => ⟨wanted_of (j := 9) (s := 25) (by kernel_rfl) (hd.vl 9 25 (by kernel_rfl) K9), ?_⟩
            obtain ⟨v14, e14, s14⟩ := hd.strs (j := 14) (s := 30) (by kernel_rfl) K14
            exact giv_call (run_call rfl Tryd.func54 (by kernel_rfl) rfl (mapE2 (eval_tmp (hd.vl 13 29 (by kernel_rfl) K13)) (eval_tmp e14))) (rkeyed1 x [99, 104, 101, 99, 107] _ W hLx s14 (by first | omega | decide | (simp; done) | (simp; omega))) K15
          · refine asks_mk fun a W hS hh hd => ⟨wanted_of (j := 9) (s := 25) (by kernel_rfl) (hd.vl 9 25 (by kernel_rfl) K9), ?_⟩
            exact giv_run (run_mv rfl (eval_tmp (hh 0 _ rfl (F3.at 0 rfl)))) K16
          · refine asks_mk fun a W hS hh hd => ⟨wanted_of (j := 9) (s := 25) (by kernel_rfl) (hd.vl 9 25 (by kernel_rfl) K9), ?_⟩
            exact giv_run (run_mv rfl (eval_tmp (hh 4 _ rfl (F3.at 4 rfl)))) K17
          · refine asks_mk fun a W hS hh hd => ⟨wanted_of (j := 9) (s := 25) (by kernel_rfl) (hd.vl 9 25 (by kernel_rfl) K9), ?_⟩
            exact giv_run (run_atP (i := k) rfl (eval_tmp (hd.vl 16 32 (by kernel_rfl) K16)) (eval_tmp (hd.vl 17 33 (by kernel_rfl) K17)) rfl (hV.below (M0.grow hS).below) (by omega) elKey.un (by kernel_rfl)) K18
          · refine asks_mk fun a W hS hh hd => ⟨wanted_of (j := 9) (s := 25) (by kernel_rfl) (hd.vl 9 25 (by kernel_rfl) K9), ?_⟩
            exact giv_run (ldKey hLy (run_ldPS (ys := dgC y) rfl (eval_tmp (hd.vl 18 34 (by kernel_rfl) K18)) (hV.below (M0.grow hS).below) (by omega) (fun j u hj => flat_at dgC_len hy j hj) (by kernel_rfl) (by kernel_rfl))) K19
          · refine asks_mk fun a W hS hh hd => ⟨wanted_of (j := 9) (s := 25) (by kernel_rfl) (hd.vl 9 25 (by kernel_rfl) K9), ?_⟩
            exact giv_strs [[99, 104, 101, 99, 107]] 9 (run_strs1 rfl rfl) K20
          · refine asks_mk fun a W hS hh hd => ⟨wanted_of (j := 9) (s := 25) (by kernel_rfl) (hd.vl 9 25 (by kernel_rfl) K9), ?_⟩
            obtain ⟨v20, e20, s20⟩ := hd.strs (j := 20) (s := 36) (by kernel_rfl) K20
            exact giv_call (run_call rfl Tryd.func54 (by kernel_rfl) rfl (mapE2 (eval_tmp (hd.vl 19 35 (by kernel_rfl) K19)) (eval_tmp e20))) (rkeyed1 y [99, 104, 101, 99, 107] _ W hLy s20 (by first | omega | decide | (simp; done) | (simp; omega))) K21
          · refine asks_mk fun a W hS hh hd => ⟨wanted_of (j := 9) (s := 25) (by kernel_rfl) (hd.vl 9 25 (by kernel_rfl) K9), ?_⟩
            exact giv_run (run_eqDB (keyedS_len _ _) (keyedS_len _ _) (beq_eq_false_iff_ne.2 hdq) rfl (eval_tmp (hd.vl 15 31 (by kernel_rfl) K15)) (eval_tmp (hd.vl 21 37 (by kernel_rfl) K21))) K22
          · exact asksY rfl fun a W hS hh hd => giv_run (run_pick rfl (eval_tmp (hd.vl 9 25 (by kernel_rfl) K9)) rfl (eval_tmp (hd.vl 22 38 (by kernel_rfl) K22))) K23
        · intro a4 w2 hb2 hK
          have e0 := hK.vl 0 16 (by kernel_rfl) K0
          have e1 := hK.vl 1 17 (by kernel_rfl) K1
          have e2 := hK.vl 2 18 (by kernel_rfl) K2
          have e3 := hK.vl 3 19 (by kernel_rfl) K3
          have e4 := hK.vl 4 20 (by kernel_rfl) K4
          have e5 := hK.vl 5 21 (by kernel_rfl) K5
          have e6 := hK.vl 6 22 (by kernel_rfl) K6
          have e7 := hK.vl 7 23 (by kernel_rfl) K7
          have e8 := hK.vl 8 24 (by kernel_rfl) K8
          have e9 := hK.vl 9 25 (by kernel_rfl) K9
          have e10 := hK.vl 10 26 (by kernel_rfl) K10
          have e11 := hK.vl 11 27 (by kernel_rfl) K11
          have e12 := hK.vl 12 28 (by kernel_rfl) K12
          have e13 := hK.vl 13 29 (by kernel_rfl) K13
          obtain ⟨v2, e14, hsv2⟩ := hK.strs (i := 14) (s := 30) (by kernel_rfl) K14
          have e15 := hK.vl 15 31 (by kernel_rfl) K15
          have e16 := hK.vl 16 32 (by kernel_rfl) K16
          have e17 := hK.vl 17 33 (by kernel_rfl) K17
          have e18 := hK.vl 18 34 (by kernel_rfl) K18
          have e19 := hK.vl 19 35 (by kernel_rfl) K19
          obtain ⟨v3, e20, hsv3⟩ := hK.strs (i := 20) (s := 36) (by kernel_rfl) K20
          have e21 := hK.vl 21 37 (by kernel_rfl) K21
          have e22 := hK.vl 22 38 (by kernel_rfl) K22
          have e23 := hK.vl 23 39 (by kernel_rfl) K23
          have F4 : Fr a4 40 [(0, v), (3, (.int .i64 (i : Int))), (4, (.int .i64 (k : Int))), (11, (.int .i64 (k : Int))), (12, (.int .i64 (i : Int))), (13, (.bool true)), (39, (.bool false))] := (hK.fr F3 [_, _, _, _, _, _, _, _, _, _, _, _, _, _, _, _, _, _, _, _, _, _, _, _] ⟨e0, e1, e2, e3, e4, e5, e6, e7, e8, e9, e10, e11, e12, e13, e14, e15, e16, e17, e18, e19, e20, e21, e22, e23, trivial⟩).sub ⟨rfl, rfl, rfl, rfl, rfl, rfl, rfl, trivial⟩
          have M1 := M0.grow hb2
          clear hK K0 e0 K1 e1 K2 e2 K3 e3 K4 e4 K5 e5 K6 e6 K7 e7 K8 e8 K9 e9 K10 e10 K11 e11 K12 e12 K13 e13 K14 e14 K15 e15 K16 e16 K17 e17 K18 e18 K19 e19 K20 e20 K21 e21 K22 e22 K23 e23
          clear F3 M0
          refine nx ?_
          refine wp_cond_false (F4.ev 39 rfl) ?_
          refine wp_skip ?_
          refine bkEnd ?_
          refine nx ?_
          refine wp_region_lit ?_
          refine mvS F4 rfl rfl rfl rfl rfl fun a5 F5 => ?_
          refine sr F5 (run_add (r := ((k + 1 : Nat) : Int)) rfl (F5.ev 14 rfl) rfl (by rw [IntKind.wrap_i64]; omega)) rfl rfl rfl fun a6 F6 => ?_
          refine asS F6 rfl rfl rfl rfl rfl fun a7 F7 => ?_
          refine sn ?_
          clear F4 F5 F6
          exact ⟨_, by omega, k + 1, by omega, rfl, apS_step hapk hx hy hxy hdq, F7.sub ⟨rfl, rfl, rfl, trivial⟩, M1⟩
    · obtain rfl : k = i := by omega
      refine wp_seq ?_
      refine wsl ?_
      refine mvS F0 rfl rfl rfl rfl rfl fun a1 F1 => ?_
      refine mvS F1 rfl rfl rfl rfl rfl fun a2 F2 => ?_
      refine sr (v := (.bool false)) F2 (run_lss rfl (F2.ev 11 rfl) (F2.ev 12 rfl) (decide_eq_false (by omega))) rfl rfl rfl fun a3 F3 => ?_
      refine sn ?_
      clear F0 F1 F2
      refine wp_cond_false (F3.ev 13 rfl) ?_
      refine wp_exit ?_
      refine nxExit ?_
      refine nxExit ?_
      refine bkHere ?_
      refine bkEnd ?_
      refine nx ?_
      refine wp_region_lit ?_
      refine mvS F3 rfl rfl rfl rfl rfl fun a4 F4 => ?_
      refine sr F4 (run_add (r := ((k + 1 : Nat) : Int)) rfl (F4.ev 9 rfl) rfl (by rw [IntKind.wrap_i64]; omega)) rfl rfl rfl fun a5 F5 => ?_
      refine asS F5 rfl rfl rfl rfl rfl fun a6 F6 => ?_
      refine sn ?_
      clear F3 F4 F5
      exact ⟨_, by omega, k + 1, by omega, rfl, apS_next hapk, F6.sub ⟨rfl, rfl, trivial⟩, M0⟩
  · skip
    refine wp_seq ?_
    refine wsl ?_
    refine mvS F0 rfl rfl rfl rfl rfl fun a1 F1 => ?_
    refine mvS F1 rfl rfl rfl rfl rfl fun a2 F2 => ?_
    refine sr F2 (run_lenS rfl (F2.ev 6 rfl) (hV.below M0.below) rfl Tryd.underlying28) rfl rfl rfl fun a3 F3 => ?_
    refine sr (v := (.bool false)) F3 (run_lss rfl (F3.ev 5 rfl) (F3.ev 7 rfl) (decide_eq_false (by omega))) rfl rfl rfl fun a4 F4 => ?_
    refine sn ?_
    clear F0 F1 F2 F3
    refine wp_cond_false (F4.ev 8 rfl) ?_
    refine wp_exit ?_
    refine nxExit ?_
    refine nxExit ?_
    refine bkHere ?_
    refine nx ?_
    refine wsl ?_
    refine sr (v := (.bool true)) F4 (run_as rfl rfl) rfl rfl rfl fun a5 F5 => ?_
    refine sn ?_
    clear F4
    refine wp_ret ?_
    exact ret1 F5 rfl rfl ⟨⟨true, rfl, fun _ => fun p q x y h2 h3 h4 => hap p q x y h2 h3 h4 (.inl (by have := (List.getElem?_eq_some_iff.1 h2).1; omega))⟩, M0.below⟩
end Go.Proofs.YtconhhhggckcbaaDoor
