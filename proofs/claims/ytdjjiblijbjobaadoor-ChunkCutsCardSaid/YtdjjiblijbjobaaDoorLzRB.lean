/- Laws and walks that many claims share: Lz2, Lz3. -/
import Derived.Test.YtdjjiblijbjobaaDoorLzQB
import Derived.Test.YtdjjiblijbjobaaDoorLzPB
/- The walks of the reference's same, best, run, Pack and Unpack. Printed by gen_lz2.py. -/
namespace Go.Proofs.YtdjjiblijbjobaaDoor
open Go.RowKit

set_option maxRecDepth 100000 in
set_option maxHeartbeats 1000000 in
theorem rsame_any (s : List UInt8) (p far : Nat) (w : World) (hs : s.length ≤ 2 ^ 32) (hf : 0 < far) (hfp : far ≤ p) (hp : p ≤ s.length) : Calls Tryd.prog 99 #[.string ⟨s.toArray⟩, .int .i64 (p : Int), .int .i64 (far : Int)] w fun e w' => e = .returned (.int .i64 (sameS s p far : Int)) ∧ Below w.heap.size w w' := by
  refine walk_enter Tryd.func99 rfl rfl rfl fun a0 F0 => ?_
  have M0 := Mem.new w
  refine wsl ?_
  refine sr (v := (.int .i64 0)) F0 (run_as rfl rfl) rfl rfl rfl fun a1 F1 => ?_
  refine sn ?_
  clear F0
  refine wsl ?_
  refine sr (v := (.int .i64 0)) F1 (run_as rfl rfl) rfl rfl rfl fun a2 F2 => ?_
  refine sn ?_
  clear F1
  refine wp_seq ?_
  refine wp_block ?_
  refine wkLoop (fun m a w2 => ∃ n : Nat, n ≤ mostS s p ∧ m = mostS s p - n ∧ (∀ i, i < n → s[p + i]? = s[p - far + i]?) ∧ Fr a 36 [(0, .string ⟨s.toArray⟩), (1, .int .i64 (p : Int)), (2, .int .i64 (far : Int)), (7, .int .i64 (n : Int))] ∧ Mem w [] w2) (mostS s p) ⟨0, Nat.zero_le _, rfl, fun i hi => by omega, F2.sub ⟨rfl, rfl, rfl, rfl, trivial⟩, M0⟩ ?_
  rintro m a0 w1 ⟨n, hn, rfl, hal, F0, M0⟩
  have hms : mostS s p = min 131 (s.length - p) := rfl
  by_cases h1 : s.length ≤ p + n
  · have hres : sameS s p far = n := sameS_eq hn hal (.inl (by omega))
    refine wp_seq ?_
    refine wp_seq ?_
    obtain ⟨KL, hKL⟩ : ∃ KL, KL = [kval (.int .i64 (p : Int)), kval (.int .i64 (n : Int)), kval (.int .i64 ((p + n : Nat) : Int)), kval (.string ⟨s.toArray⟩), kval (.int .i64 (s.length : Int)), kval (.bool false), kval (.bool false), kval undef, kval undef, kval (.bool false), kval (.bool false), kval undef, kval undef, kval undef, kval undef, kval undef, kval undef, kval undef, kval undef, kval undef, kval undef, kval undef, kval undef, kval undef, kval (.bool false)] := ⟨_, rfl⟩
    have K0 := getK hKL 0
    have K1 := getK hKL 1
    have K2 := getK hKL 2
    have K3 := getK hKL 3
    have K4 := getK hKL 4
    have K5 := getK hKL 5
    have K6 := getK hKL 6
    have K7 := getK hKL 7
    have K8 := getK hKL 8
    have K9 := getK hKL 9
    have K10 := getK hKL 10
    have K11 := getK hKL 11
    have K12 := getK hKL 12
    have K13 := getK hKL 13
    have K14 := getK hKL 14
    have K15 := getK hKL 15
    have K16 := getK hKL 16
    have K17 := getK hKL 17
    have K18 := getK hKL 18
    have K19 := getK hKL 19
    have K20 := getK hKL 20
    have K21 := getK hKL 21
    have K22 := getK hKL 22
    have K23 := getK hKL 23
    have K24 := getK hKL 24
    clear hKL
    refine wp_region_kd 36 (by kernel_rfl) (by kernel_rfl) (by kernel_rfl) F0.size KL ?_ ?_
    · refine ⟨?_, ?_, ?_, ?_, ?_, ?_, ?_, ?_, ?_, ?_, ?_, ?_, ?_, ?_, ?_, ?_, ?_, ?_, ?_, ?_, ?_, ?_, ?_, ?_, ?_, trivial⟩
      · exact asksY rfl fun a W hS hh hd => giv_run (run_mv rfl (eval_tmp (hh 1 _ rfl (F0.at 1 rfl)))) K0
      · exact asksY rfl fun a W hS hh hd => giv_run (run_mv rfl (eval_tmp (hh 7 _ rfl (F0.at 7 rfl)))) K1
      · exact asksY rfl fun a W hS hh hd => giv_run (run_add (r := ((p + n : Nat) : Int)) rfl (eval_tmp (hd.vl 0 8 (by kernel_rfl) K0)) (eval_tmp (hd.vl 1 9 (by kernel_rfl) K1)) (by rw [IntKind.wrap_i64]; omega)) K2
      · exact asksY rfl fun a W hS hh hd => giv_run (run_mv rfl (eval_tmp (hh 0 _ rfl (F0.at 0 rfl)))) K3
      · exact asksY rfl fun a W hS hh hd => giv_run (run_len rfl (eval_tmp (hd.vl 3 11 (by kernel_rfl) K3)) rfl Tryd.underlying9) K4
      · exact asksY rfl fun a W hS hh hd => giv_run (run_lss rfl (eval_tmp (hd.vl 2 10 (by kernel_rfl) K2)) (eval_tmp (hd.vl 4 12 (by kernel_rfl) K4)) (decide_eq_false (by omega))) K5
      · exact asksY rfl fun a W hS hh hd => giv_run (run_mv rfl (eval_tmp (hd.vl 5 13 (by kernel_rfl) K5))) K6
      · exact asks_skip fun a W hS hh hd => ⟨unwanted_of (j := 6) (s := 14) (want := true) (by kernel_rfl) (hd.vl 6 14 (by kernel_rfl) K6), show kT KL 7 undef W by unfold kT; rw [K7]; rfl⟩
      · exact asks_skip fun a W hS hh hd => ⟨unwanted_of (j := 6) (s := 14) (want := true) (by kernel_rfl) (hd.vl 6 14 (by kernel_rfl) K6), show kT KL 8 undef W by unfold kT; rw [K8]; rfl⟩
      · exact asksY rfl fun a W hS hh hd => giv_run (run_pick rfl (eval_tmp (hd.vl 6 14 (by kernel_rfl) K6)) (eval_tmp (hd.vl 8 16 (by kernel_rfl) K8)) rfl) K9
      · exact asksY rfl fun a W hS hh hd => giv_run (run_mv rfl (eval_tmp (hd.vl 9 17 (by kernel_rfl) K9))) K10
      · exact asks_skip fun a W hS hh hd => ⟨unwanted_of (j := 10) (s := 18) (want := true) (by kernel_rfl) (hd.vl 10 18 (by kernel_rfl) K10), show kT KL 11 undef W by unfold kT; rw [K11]; rfl⟩
      · exact asks_skip fun a W hS hh hd => ⟨unwanted_of (j := 10) (s := 18) (want := true) (by kernel_rfl) (hd.vl 10 18 (by kernel_rfl) K10), show kT KL 12 undef W by unfold kT; rw [K12]; rfl⟩
      · exact asks_skip fun a W hS hh hd => ⟨unwanted_of (j := 10) (s := 18) (want := true) (by kernel_rfl) (hd.vl 10 18 (by kernel_rfl) K10), show kT KL 13 undef W by unfold kT; rw [K13]; rfl⟩
      · exact asks_skip fun a W hS hh hd => ⟨unwanted_of (j := 10) (s := 18) (want := true) (by kernel_rfl) (hd.vl 10 18 (by kernel_rfl) K10), show kT KL 14 undef W by unfold kT; rw [K14]; rfl⟩
      · exact asks_skip fun a W hS hh hd => ⟨unwanted_of (j := 10) (s := 18) (want := true) (by kernel_rfl) (hd.vl 10 18 (by kernel_rfl) K10), show kT KL 15 undef W by unfold kT; rw [K15]; rfl⟩
      · exact asks_skip fun a W hS hh hd => ⟨unwanted_of (j := 10) (s := 18) (want := true) (by kernel_rfl) (hd.vl 10 18 (by kernel_rfl) K10), show kT KL 16 undef W by unfold kT; rw [K16]; rfl⟩
      · exact asks_skip fun a W hS hh hd => ⟨unwanted_of (j := 10) (s := 18) (want := true) (by kernel_rfl) (hd.vl 10 18 (by kernel_rfl) K10), show kT KL 17 undef W by unfold kT; rw [K17]; rfl⟩
      · exact asks_skip fun a W hS hh hd => ⟨unwanted_of (j := 10) (s := 18) (want := true) (by kernel_rfl) (hd.vl 10 18 (by kernel_rfl) K10), show kT KL 18 undef W by unfold kT; rw [K18]; rfl⟩
      · exact asks_skip fun a W hS hh hd => ⟨unwanted_of (j := 10) (s := 18) (want := true) (by kernel_rfl) (hd.vl 10 18 (by kernel_rfl) K10), show kT KL 19 undef W by unfold kT; rw [K19]; rfl⟩
      · exact asks_skip fun a W hS hh hd => ⟨unwanted_of (j := 10) (s := 18) (want := true) (by kernel_rfl) (hd.vl 10 18 (by kernel_rfl) K10), show kT KL 20 undef W by unfold kT; rw [K20]; rfl⟩
      · exact asks_skip fun a W hS hh hd => ⟨unwanted_of (j := 10) (s := 18) (want := true) (by kernel_rfl) (hd.vl 10 18 (by kernel_rfl) K10), show kT KL 21 undef W by unfold kT; rw [K21]; rfl⟩
      · exact asks_skip fun a W hS hh hd => ⟨unwanted_of (j := 10) (s := 18) (want := true) (by kernel_rfl) (hd.vl 10 18 (by kernel_rfl) K10), show kT KL 22 undef W by unfold kT; rw [K22]; rfl⟩
      · exact asks_skip fun a W hS hh hd => ⟨unwanted_of (j := 10) (s := 18) (want := true) (by kernel_rfl) (hd.vl 10 18 (by kernel_rfl) K10), show kT KL 23 undef W by unfold kT; rw [K23]; rfl⟩
      · exact asksY rfl fun a W hS hh hd => giv_run (run_pick rfl (eval_tmp (hd.vl 10 18 (by kernel_rfl) K10)) (eval_tmp (hd.vl 23 31 (by kernel_rfl) K23)) rfl) K24
    · intro a1 w2 hb2 hK
      have e0 := hK.vl 0 8 (by kernel_rfl) K0
      have e1 := hK.vl 1 9 (by kernel_rfl) K1
      have e2 := hK.vl 2 10 (by kernel_rfl) K2
      have e3 := hK.vl 3 11 (by kernel_rfl) K3
      have e4 := hK.vl 4 12 (by kernel_rfl) K4
      have e5 := hK.vl 5 13 (by kernel_rfl) K5
      have e6 := hK.vl 6 14 (by kernel_rfl) K6
      have e7 := hK.vl 7 15 (by kernel_rfl) K7
      have e8 := hK.vl 8 16 (by kernel_rfl) K8
      have e9 := hK.vl 9 17 (by kernel_rfl) K9
      have e10 := hK.vl 10 18 (by kernel_rfl) K10
      have e11 := hK.vl 11 19 (by kernel_rfl) K11
      have e12 := hK.vl 12 20 (by kernel_rfl) K12
      have e13 := hK.vl 13 21 (by kernel_rfl) K13
      have e14 := hK.vl 14 22 (by kernel_rfl) K14
      have e15 := hK.vl 15 23 (by kernel_rfl) K15
      have e16 := hK.vl 16 24 (by kernel_rfl) K16
      have e17 := hK.vl 17 25 (by kernel_rfl) K17
      have e18 := hK.vl 18 26 (by kernel_rfl) K18
      have e19 := hK.vl 19 27 (by kernel_rfl) K19
      have e20 := hK.vl 20 28 (by kernel_rfl) K20
      have e21 := hK.vl 21 29 (by kernel_rfl) K21
      have e22 := hK.vl 22 30 (by kernel_rfl) K22
      have e23 := hK.vl 23 31 (by kernel_rfl) K23
      have e24 := hK.vl 24 32 (by kernel_rfl) K24
      have F1 : Fr a1 36 [(0, (.string ⟨s.toArray⟩)), (1, (.int .i64 (p : Int))), (2, (.int .i64 (far : Int))), (7, (.int .i64 (n : Int))), (32, (.bool false))] := (hK.fr F0 [_, _, _, _, _, _, _, _, _, _, _, _, _, _, _, _, _, _, _, _, _, _, _, _, _] ⟨e0, e1, e2, e3, e4, e5, e6, e7, e8, e9, e10, e11, e12, e13, e14, e15, e16, e17, e18, e19, e20, e21, e22, e23, e24, trivial⟩).sub ⟨rfl, rfl, rfl, rfl, rfl, trivial⟩
      have M1 := M0.grow hb2
      clear hK K0 e0 K1 e1 K2 e2 K3 e3 K4 e4 K5 e5 K6 e6 K7 e7 K8 e8 K9 e9 K10 e10 K11 e11 K12 e12 K13 e13 K14 e14 K15 e15 K16 e16 K17 e17 K18 e18 K19 e19 K20 e20 K21 e21 K22 e22 K23 e23 K24 e24
      clear F0 M0
      refine nx ?_
      refine wp_cond_false (F1.ev 32 rfl) ?_
      refine wp_exit ?_
      refine nxExit ?_
      refine nxExit ?_
      refine bkHere ?_
      refine nx ?_
      refine wsl ?_
      refine mvS F1 rfl rfl rfl rfl rfl fun a2 F2 => ?_
      refine asS F2 rfl rfl rfl rfl rfl fun a3 F3 => ?_
      refine sn ?_
      clear F1 F2
      refine wp_ret ?_
      exact ret1 F3 rfl rfl ⟨by rw [hres], M1.below⟩
  by_cases h2 : 131 ≤ n
  · have hres : sameS s p far = n := sameS_eq hn hal (.inl (by omega))
    refine wp_seq ?_
    refine wp_seq ?_
    obtain ⟨KL, hKL⟩ : ∃ KL, KL = [kval (.int .i64 (p : Int)), kval (.int .i64 (n : Int)), kval (.int .i64 ((p + n : Nat) : Int)), kval (.string ⟨s.toArray⟩), kval (.int .i64 (s.length : Int)), kval (.bool true), kval (.bool true), kval (.int .i64 (n : Int)), kval (.bool false), kval (.bool false), kval (.bool false), kval undef, kval undef, kval undef, kval undef, kval undef, kval undef, kval undef, kval undef, kval undef, kval undef, kval undef, kval undef, kval undef, kval (.bool false)] := ⟨_, rfl⟩
    have K0 := getK hKL 0
    have K1 := getK hKL 1
    have K2 := getK hKL 2
    have K3 := getK hKL 3
    have K4 := getK hKL 4
    have K5 := getK hKL 5
    have K6 := getK hKL 6
    have K7 := getK hKL 7
    have K8 := getK hKL 8
    have K9 := getK hKL 9
    have K10 := getK hKL 10
    have K11 := getK hKL 11
    have K12 := getK hKL 12
    have K13 := getK hKL 13
    have K14 := getK hKL 14
    have K15 := getK hKL 15
    have K16 := getK hKL 16
    have K17 := getK hKL 17
    have K18 := getK hKL 18
    have K19 := getK hKL 19
    have K20 := getK hKL 20
    have K21 := getK hKL 21
    have K22 := getK hKL 22
    have K23 := getK hKL 23
    have K24 := getK hKL 24
    clear hKL
    refine wp_region_kd 36 (by kernel_rfl) (by kernel_rfl) (by kernel_rfl) F0.size KL ?_ ?_
    · refine ⟨?_, ?_, ?_, ?_, ?_, ?_, ?_, ?_, ?_, ?_, ?_, ?_, ?_, ?_, ?_, ?_, ?_, ?_, ?_, ?_, ?_, ?_, ?_, ?_, ?_, trivial⟩
      · exact asksY rfl fun a W hS hh hd => giv_run (run_mv rfl (eval_tmp (hh 1 _ rfl (F0.at 1 rfl)))) K0
      · exact asksY rfl fun a W hS hh hd => giv_run (run_mv rfl (eval_tmp (hh 7 _ rfl (F0.at 7 rfl)))) K1
      · exact asksY rfl fun a W hS hh hd => giv_run (run_add (r := ((p + n : Nat) : Int)) rfl (eval_tmp (hd.vl 0 8 (by kernel_rfl) K0)) (eval_tmp (hd.vl 1 9 (by kernel_rfl) K1)) (by rw [IntKind.wrap_i64]; omega)) K2
      · exact asksY rfl fun a W hS hh hd => giv_run (run_mv rfl (eval_tmp (hh 0 _ rfl (F0.at 0 rfl)))) K3
      · exact asksY rfl fun a W hS hh hd => giv_run (run_len rfl (eval_tmp (hd.vl 3 11 (by kernel_rfl) K3)) rfl Tryd.underlying9) K4
      · exact asksY rfl fun a W hS hh hd => giv_run (run_lss rfl (eval_tmp (hd.vl 2 10 (by kernel_rfl) K2)) (eval_tmp (hd.vl 4 12 (by kernel_rfl) K4)) (decide_eq_true (by omega))) K5
      · exact asksY rfl fun a W hS hh hd => giv_run (run_mv rfl (eval_tmp (hd.vl 5 13 (by kernel_rfl) K5))) K6
      · refine asks_mk fun a W hS hh hd => ⟨wanted_of (j := 6) (s := 14) (by kernel_rfl) (hd.vl 6 14 (by kernel_rfl) K6), ?_⟩
        exact giv_run (run_mv rfl (eval_tmp (hh 7 _ rfl (F0.at 7 rfl)))) K7
      · refine asks_mk fun a W hS hh hd => ⟨wanted_of (j := 6) (s := 14) (by kernel_rfl) (hd.vl 6 14 (by kernel_rfl) K6), ?_⟩
        exact giv_run (run_lss rfl (eval_tmp (hd.vl 7 15 (by kernel_rfl) K7)) rfl (decide_eq_false (by omega))) K8
      · exact asksY rfl fun a W hS hh hd => giv_run (run_pick rfl (eval_tmp (hd.vl 6 14 (by kernel_rfl) K6)) (eval_tmp (hd.vl 8 16 (by kernel_rfl) K8)) rfl) K9
      · exact asksY rfl fun a W hS hh hd => giv_run (run_mv rfl (eval_tmp (hd.vl 9 17 (by kernel_rfl) K9))) K10
      · exact asks_skip fun a W hS hh hd => ⟨unwanted_of (j := 10) (s := 18) (want := true) (by kernel_rfl) (hd.vl 10 18 (by kernel_rfl) K10), show kT KL 11 undef W by unfold kT; rw [K11]; rfl⟩
      · exact asks_skip fun a W hS hh hd => ⟨unwanted_of (j := 10) (s := 18) (want := true) (by kernel_rfl) (hd.vl 10 18 (by kernel_rfl) K10), show kT KL 12 undef W by unfold kT; rw [K12]; rfl⟩
      · exact asks_skip fun a W hS hh hd => ⟨unwanted_of (j := 10) (s := 18) (want := true) (by kernel_rfl) (hd.vl 10 18 (by kernel_rfl) K10), show kT KL 13 undef W by unfold kT; rw [K13]; rfl⟩
      · exact asks_skip fun a W hS hh hd => ⟨unwanted_of (j := 10) (s := 18) (want := true) (by kernel_rfl) (hd.vl 10 18 (by kernel_rfl) K10), show kT KL 14 undef W by unfold kT; rw [K14]; rfl⟩
      · exact asks_skip fun a W hS hh hd => ⟨unwanted_of (j := 10) (s := 18) (want := true) (by kernel_rfl) (hd.vl 10 18 (by kernel_rfl) K10), show kT KL 15 undef W by unfold kT; rw [K15]; rfl⟩
      · exact asks_skip fun a W hS hh hd => ⟨unwanted_of (j := 10) (s := 18) (want := true) (by kernel_rfl) (hd.vl 10 18 (by kernel_rfl) K10), show kT KL 16 undef W by unfold kT; rw [K16]; rfl⟩
      · exact asks_skip fun a W hS hh hd => ⟨unwanted_of (j := 10) (s := 18) (want := true) (by kernel_rfl) (hd.vl 10 18 (by kernel_rfl) K10), show kT KL 17 undef W by unfold kT; rw [K17]; rfl⟩
      · exact asks_skip fun a W hS hh hd => ⟨unwanted_of (j := 10) (s := 18) (want := true) (by kernel_rfl) (hd.vl 10 18 (by kernel_rfl) K10), show kT KL 18 undef W by unfold kT; rw [K18]; rfl⟩
      · exact asks_skip fun a W hS hh hd => ⟨unwanted_of (j := 10) (s := 18) (want := true) (by kernel_rfl) (hd.vl 10 18 (by kernel_rfl) K10), show kT KL 19 undef W by unfold kT; rw [K19]; rfl⟩
      · exact asks_skip fun a W hS hh hd => ⟨unwanted_of (j := 10) (s := 18) (want := true) (by kernel_rfl) (hd.vl 10 18 (by kernel_rfl) K10), show kT KL 20 undef W by unfold kT; rw [K20]; rfl⟩
      · exact asks_skip fun a W hS hh hd => ⟨unwanted_of (j := 10) (s := 18) (want := true) (by kernel_rfl) (hd.vl 10 18 (by kernel_rfl) K10), show kT KL 21 undef W by unfold kT; rw [K21]; rfl⟩
      · exact asks_skip fun a W hS hh hd => ⟨unwanted_of (j := 10) (s := 18) (want := true) (by kernel_rfl) (hd.vl 10 18 (by kernel_rfl) K10), show kT KL 22 undef W by unfold kT; rw [K22]; rfl⟩
      · exact asks_skip fun a W hS hh hd => ⟨unwanted_of (j := 10) (s := 18) (want := true) (by kernel_rfl) (hd.vl 10 18 (by kernel_rfl) K10), show kT KL 23 undef W by unfold kT; rw [K23]; rfl⟩
      · exact asksY rfl fun a W hS hh hd => giv_run (run_pick rfl (eval_tmp (hd.vl 10 18 (by kernel_rfl) K10)) (eval_tmp (hd.vl 23 31 (by kernel_rfl) K23)) rfl) K24
    · intro a1 w2 hb2 hK
      have e0 := hK.vl 0 8 (by kernel_rfl) K0
      have e1 := hK.vl 1 9 (by kernel_rfl) K1
      have e2 := hK.vl 2 10 (by kernel_rfl) K2
      have e3 := hK.vl 3 11 (by kernel_rfl) K3
      have e4 := hK.vl 4 12 (by kernel_rfl) K4
      have e5 := hK.vl 5 13 (by kernel_rfl) K5
      have e6 := hK.vl 6 14 (by kernel_rfl) K6
      have e7 := hK.vl 7 15 (by kernel_rfl) K7
      have e8 := hK.vl 8 16 (by kernel_rfl) K8
      have e9 := hK.vl 9 17 (by kernel_rfl) K9
      have e10 := hK.vl 10 18 (by kernel_rfl) K10
      have e11 := hK.vl 11 19 (by kernel_rfl) K11
      have e12 := hK.vl 12 20 (by kernel_rfl) K12
      have e13 := hK.vl 13 21 (by kernel_rfl) K13
      have e14 := hK.vl 14 22 (by kernel_rfl) K14
      have e15 := hK.vl 15 23 (by kernel_rfl) K15
      have e16 := hK.vl 16 24 (by kernel_rfl) K16
      have e17 := hK.vl 17 25 (by kernel_rfl) K17
      have e18 := hK.vl 18 26 (by kernel_rfl) K18
      have e19 := hK.vl 19 27 (by kernel_rfl) K19
      have e20 := hK.vl 20 28 (by kernel_rfl) K20
      have e21 := hK.vl 21 29 (by kernel_rfl) K21
      have e22 := hK.vl 22 30 (by kernel_rfl) K22
      have e23 := hK.vl 23 31 (by kernel_rfl) K23
      have e24 := hK.vl 24 32 (by kernel_rfl) K24
      have F1 : Fr a1 36 [(0, (.string ⟨s.toArray⟩)), (1, (.int .i64 (p : Int))), (2, (.int .i64 (far : Int))), (7, (.int .i64 (n : Int))), (32, (.bool false))] := (hK.fr F0 [_, _, _, _, _, _, _, _, _, _, _, _, _, _, _, _, _, _, _, _, _, _, _, _, _] ⟨e0, e1, e2, e3, e4, e5, e6, e7, e8, e9, e10, e11, e12, e13, e14, e15, e16, e17, e18, e19, e20, e21, e22, e23, e24, trivial⟩).sub ⟨rfl, rfl, rfl, rfl, rfl, trivial⟩
      have M1 := M0.grow hb2
      clear hK K0 e0 K1 e1 K2 e2 K3 e3 K4 e4 K5 e5 K6 e6 K7 e7 K8 e8 K9 e9 K10 e10 K11 e11 K12 e12 K13 e13 K14 e14 K15 e15 K16 e16 K17 e17 K18 e18 K19 e19 K20 e20 K21 e21 K22 e22 K23 e23 K24 e24
      clear F0 M0
      refine nx ?_
      refine wp_cond_false (F1.ev 32 rfl) ?_
      refine wp_exit ?_
      refine nxExit ?_
      refine nxExit ?_
      refine bkHere ?_
      refine nx ?_
      refine wsl ?_
      refine mvS F1 rfl rfl rfl rfl rfl fun a2 F2 => ?_
      refine asS F2 rfl rfl rfl rfl rfl fun a3 F3 => ?_
      refine sn ?_
      clear F1 F2
      refine wp_ret ?_
      exact ret1 F3 rfl rfl ⟨by rw [hres], M1.below⟩
  by_cases h3 : (bt s (p + n)).toNat = (bt s (p - far + n)).toNat
  · have hg := bt_eq (l := s) (i := p + n) (j := p - far + n) (by omega) (by omega) h3
    refine wp_seq ?_
    refine wp_seq ?_
    obtain ⟨KL, hKL⟩ : ∃ KL, KL = [kval (.int .i64 (p : Int)), kval (.int .i64 (n : Int)), kval (.int .i64 ((p + n : Nat) : Int)), kval (.string ⟨s.toArray⟩), kval (.int .i64 (s.length : Int)), kval (.bool true), kval (.bool true), kval (.int .i64 (n : Int)), kval (.bool true), kval (.bool true), kval (.bool true), kval (.string ⟨s.toArray⟩), kval (.int .i64 (p : Int)), kval (.int .i64 (n : Int)), kval (.int .i64 ((p + n : Nat) : Int)), kval (.int .u8 ((bt s (p + n)).toNat : Int)), kval (.string ⟨s.toArray⟩), kval (.int .i64 (p : Int)), kval (.int .i64 (n : Int)), kval (.int .i64 ((p + n : Nat) : Int)), kval (.int .i64 (far : Int)), kval (.int .i64 ((p - far + n : Nat) : Int)), kval (.int .u8 ((bt s (p - far + n)).toNat : Int)), kval (.bool true), kval (.bool true)] := ⟨_, rfl⟩
    have K0 := getK hKL 0
    have K1 := getK hKL 1
    have K2 := getK hKL 2
    have K3 := getK hKL 3
    have K4 := getK hKL 4
    have K5 := getK hKL 5
    have K6 := getK hKL 6
    have K7 := getK hKL 7
    have K8 := getK hKL 8
    have K9 := getK hKL 9
    have K10 := getK hKL 10
    have K11 := getK hKL 11
    have K12 := getK hKL 12
    have K13 := getK hKL 13
    have K14 := getK hKL 14
    have K15 := getK hKL 15
    have K16 := getK hKL 16
    have K17 := getK hKL 17
    have K18 := getK hKL 18
    have K19 := getK hKL 19
    have K20 := getK hKL 20
    have K21 := getK hKL 21
    have K22 := getK hKL 22
    have K23 := getK hKL 23
    have K24 := getK hKL 24
    clear hKL
    refine wp_region_kd 36 (by kernel_rfl) (by kernel_rfl) (by kernel_rfl) F0.size KL ?_ ?_
    · refine ⟨?_, ?_, ?_, ?_, ?_, ?_, ?_, ?_, ?_, ?_, ?_, ?_, ?_, ?_, ?_, ?_, ?_, ?_, ?_, ?_, ?_, ?_, ?_, ?_, ?_, trivial⟩
      · exact asksY rfl fun a W hS hh hd => giv_run (run_mv rfl (eval_tmp (hh 1 _ rfl (F0.at 1 rfl)))) K0
      · exact asksY rfl fun a W hS hh hd => giv_run (run_mv rfl (eval_tmp (hh 7 _ rfl (F0.at 7 rfl)))) K1
      · exact asksY rfl fun a W hS hh hd => giv_run (run_add (r := ((p + n : Nat) : Int)) rfl (eval_tmp (hd.vl 0 8 (by kernel_rfl) K0)) (eval_tmp (hd.vl 1 9 (by kernel_rfl) K1)) (by rw [IntKind.wrap_i64]; omega)) K2
      · exact asksY rfl fun a W hS hh hd => giv_run (run_mv rfl (eval_tmp (hh 0 _ rfl (F0.at 0 rfl)))) K3
      · exact asksY rfl fun a W hS hh hd => giv_run (run_len rfl (eval_tmp (hd.vl 3 11 (by kernel_rfl) K3)) rfl Tryd.underlying9) K4
      · exact asksY rfl fun a W hS hh hd => giv_run (run_lss rfl (eval_tmp (hd.vl 2 10 (by kernel_rfl) K2)) (eval_tmp (hd.vl 4 12 (by kernel_rfl) K4)) (decide_eq_true (by omega))) K5
      · exact asksY rfl fun a W hS hh hd => giv_run (run_mv rfl (eval_tmp (hd.vl 5 13 (by kernel_rfl) K5))) K6
      · refine asks_mk fun a W hS hh hd => ⟨wanted_of (j := 6) (s := 14) (by kernel_rfl) (hd.vl 6 14 (by kernel_rfl) K6), ?_⟩
        exact giv_run (run_mv rfl (eval_tmp (hh 7 _ rfl (F0.at 7 rfl)))) K7
      · refine asks_mk fun a W hS hh hd => ⟨wanted_of (j := 6) (s := 14) (by kernel_rfl) (hd.vl 6 14 (by kernel_rfl) K6), ?_⟩
        exact giv_run (run_lss rfl (eval_tmp (hd.vl 7 15 (by kernel_rfl) K7)) rfl (decide_eq_true (by omega))) K8
      · exact asksY rfl fun a W hS hh hd => giv_run (run_pick rfl (eval_tmp (hd.vl 6 14 (by kernel_rfl) K6)) (eval_tmp (hd.vl 8 16 (by kernel_rfl) K8)) rfl) K9
      · exact asksY rfl fun a W hS hh hd => giv_run (run_mv rfl (eval_tmp (hd.vl 9 17 (by kernel_rfl) K9))) K10
      · refine asks_mk fun a W hS hh hd => ⟨wanted_of (j := 10) (s := 18) (by kernel_rfl) (hd.vl 10 18 (by kernel_rfl) K10), ?_⟩
        exact giv_run (run_mv rfl (eval_tmp (hh 0 _ rfl (F0.at 0 rfl)))) K11
      · refine asks_mk fun a W hS hh hd => ⟨wanted_of (j := 10) (s := 18) (by kernel_rfl) (hd.vl 10 18 (by kernel_rfl) K10), ?_⟩
        exact giv_run (run_mv rfl (eval_tmp (hh 1 _ rfl (F0.at 1 rfl)))) K12
      · refine asks_mk fun a W hS hh hd => ⟨wanted_of (j := 10) (s := 18) (by kernel_rfl) (hd.vl 10 18 (by kernel_rfl) K10), ?_⟩
        exact giv_run (run_mv rfl (eval_tmp (hh 7 _ rfl (F0.at 7 rfl)))) K13
      · refine asks_mk fun a W hS hh hd => ⟨wanted_of (j := 10) (s := 18) (by kernel_rfl) (hd.vl 10 18 (by kernel_rfl) K10), ?_⟩
        exact giv_run (run_add (r := ((p + n : Nat) : Int)) rfl (eval_tmp (hd.vl 12 20 (by kernel_rfl) K12)) (eval_tmp (hd.vl 13 21 (by kernel_rfl) K13)) (by rw [IntKind.wrap_i64]; omega)) K14
      · refine asks_mk fun a W hS hh hd => ⟨wanted_of (j := 10) (s := 18) (by kernel_rfl) (hd.vl 10 18 (by kernel_rfl) K10), ?_⟩
        exact giv_run (run_sAt (n := (p + n)) rfl (eval_tmp (hd.vl 11 19 (by kernel_rfl) K11)) (eval_tmp (hd.vl 14 22 (by kernel_rfl) K14)) Tryd.underlying9 rfl (by omega)) K15
      · refine asks_mk fun a W hS hh hd => ⟨wanted_of (j := 10) (s := 18) (by kernel_rfl) (hd.vl 10 18 (by kernel_rfl) K10), ?_⟩
        exact giv_run (run_mv rfl (eval_tmp (hh 0 _ rfl (F0.at 0 rfl)))) K16
      · refine asks_mk fun a W hS hh hd => ⟨wanted_of (j := 10) (s := 18) (by kernel_rfl) (hd.vl 10 18 (by kernel_rfl) K10), ?_⟩
        exact giv_run (run_mv rfl (eval_tmp (hh 1 _ rfl (F0.at 1 rfl)))) K17
      · refine asks_mk fun a W hS hh hd => ⟨wanted_of (j := 10) (s := 18) (by kernel_rfl) (hd.vl 10 18 (by kernel_rfl) K10), ?_⟩
        exact giv_run (run_mv rfl (eval_tmp (hh 7 _ rfl (F0.at 7 rfl)))) K18
      · refine asks_mk fun a W hS hh hd => ⟨wanted_of (j := 10) (s := 18) (by kernel_rfl) (hd.vl 10 18 (by kernel_rfl) K10), ?_⟩
        exact giv_run (run_add (r := ((p + n : Nat) : Int)) rfl (eval_tmp (hd.vl 17 25 (by kernel_rfl) K17)) (eval_tmp (hd.vl 18 26 (by kernel_rfl) K18)) (by rw [IntKind.wrap_i64]; omega)) K19
      · refine asks_mk fun a W hS hh hd => ⟨wanted_of (j := 10) (s := 18) (by kernel_rfl) (hd.vl 10 18 (by kernel_rfl) K10), ?_⟩
        exact giv_run (run_mv rfl (eval_tmp (hh 2 _ rfl (F0.at 2 rfl)))) K20
      · refine asks_mk fun a W hS hh hd => ⟨wanted_of (j := 10) (s := 18) (by kernel_rfl) (hd.vl 10 18 (by kernel_rfl) K10), ?_⟩
        exact giv_run (run_sub (r := ((p - far + n : Nat) : Int)) rfl (eval_tmp (hd.vl 19 27 (by kernel_rfl) K19)) (eval_tmp (hd.vl 20 28 (by kernel_rfl) K20)) (by rw [IntKind.wrap_i64]; omega)) K21
      · refine asks_mk fun a W hS hh hd => ⟨wanted_of (j := 10) (s := 18) (by kernel_rfl) (hd.vl 10 18 (by kernel_rfl) K10), ?_⟩
        exact giv_run (run_sAt (n := (p - far + n)) rfl (eval_tmp (hd.vl 16 24 (by kernel_rfl) K16)) (eval_tmp (hd.vl 21 29 (by kernel_rfl) K21)) Tryd.underlying9 rfl (by omega)) K22
      · refine asks_mk fun a W hS hh hd => ⟨wanted_of (j := 10) (s := 18) (by kernel_rfl) (hd.vl 10 18 (by kernel_rfl) K10), ?_⟩
        exact giv_run (run_eqi rfl (eval_tmp (hd.vl 15 23 (by kernel_rfl) K15)) (eval_tmp (hd.vl 22 30 (by kernel_rfl) K22)) (beq_iff_eq.2 (by omega))) K23
      · exact asksY rfl fun a W hS hh hd => giv_run (run_pick rfl (eval_tmp (hd.vl 10 18 (by kernel_rfl) K10)) (eval_tmp (hd.vl 23 31 (by kernel_rfl) K23)) rfl) K24
    · intro a1 w2 hb2 hK
      have e0 := hK.vl 0 8 (by kernel_rfl) K0
      have e1 := hK.vl 1 9 (by kernel_rfl) K1
      have e2 := hK.vl 2 10 (by kernel_rfl) K2
      have e3 := hK.vl 3 11 (by kernel_rfl) K3
      have e4 := hK.vl 4 12 (by kernel_rfl) K4
      have e5 := hK.vl 5 13 (by kernel_rfl) K5
      have e6 := hK.vl 6 14 (by kernel_rfl) K6
      have e7 := hK.vl 7 15 (by kernel_rfl) K7
      have e8 := hK.vl 8 16 (by kernel_rfl) K8
      have e9 := hK.vl 9 17 (by kernel_rfl) K9
      have e10 := hK.vl 10 18 (by kernel_rfl) K10
      have e11 := hK.vl 11 19 (by kernel_rfl) K11
      have e12 := hK.vl 12 20 (by kernel_rfl) K12
      have e13 := hK.vl 13 21 (by kernel_rfl) K13
      have e14 := hK.vl 14 22 (by kernel_rfl) K14
      have e15 := hK.vl 15 23 (by kernel_rfl) K15
      have e16 := hK.vl 16 24 (by kernel_rfl) K16
      have e17 := hK.vl 17 25 (by kernel_rfl) K17
      have e18 := hK.vl 18 26 (by kernel_rfl) K18
      have e19 := hK.vl 19 27 (by kernel_rfl) K19
      have e20 := hK.vl 20 28 (by kernel_rfl) K20
      have e21 := hK.vl 21 29 (by kernel_rfl) K21
      have e22 := hK.vl 22 30 (by kernel_rfl) K22
      have e23 := hK.vl 23 31 (by kernel_rfl) K23
      have e24 := hK.vl 24 32 (by kernel_rfl) K24
      have F1 : Fr a1 36 [(0, (.string ⟨s.toArray⟩)), (1, (.int .i64 (p : Int))), (2, (.int .i64 (far : Int))), (7, (.int .i64 (n : Int))), (32, (.bool true))] := (hK.fr F0 [_, _, _, _, _, _, _, _, _, _, _, _, _, _, _, _, _, _, _, _, _, _, _, _, _] ⟨e0, e1, e2, e3, e4, e5, e6, e7, e8, e9, e10, e11, e12, e13, e14, e15, e16, e17, e18, e19, e20, e21, e22, e23, e24, trivial⟩).sub ⟨rfl, rfl, rfl, rfl, rfl, trivial⟩
      have M1 := M0.grow hb2
      clear hK K0 e0 K1 e1 K2 e2 K3 e3 K4 e4 K5 e5 K6 e6 K7 e7 K8 e8 K9 e9 K10 e10 K11 e11 K12 e12 K13 e13 K14 e14 K15 e15 K16 e16 K17 e17 K18 e18 K19 e19 K20 e20 K21 e21 K22 e22 K23 e23 K24 e24
      clear F0 M0
      refine nx ?_
      refine cts (F1.ev 32 rfl) ?_
      refine wp_block ?_
      refine wp_region_lit ?_
      refine mvS F1 rfl rfl rfl rfl rfl fun a2 F2 => ?_
      refine sr F2 (run_add (r := ((n + 1 : Nat) : Int)) rfl (F2.ev 33 rfl) rfl (by rw [IntKind.wrap_i64]; omega)) rfl rfl rfl fun a3 F3 => ?_
      refine asS F3 rfl rfl rfl rfl rfl fun a4 F4 => ?_
      refine sqEnd ?_
      clear F1 F2 F3
      refine bkEnd ?_
      refine nx ?_
      refine ⟨_, by omega, n + 1, by omega, rfl, fun i hi => ?_, F4.sub ⟨rfl, rfl, rfl, rfl, trivial⟩, M1⟩
      rcases Nat.lt_or_ge i n with h | h
      · exact hal i h
      · obtain rfl : i = n := by omega
        exact hg
  · have hres : sameS s p far = n := sameS_eq hn hal (.inr (bt_ne (by omega) (by omega) h3))
    refine wp_seq ?_
    refine wp_seq ?_
    obtain ⟨KL, hKL⟩ : ∃ KL, KL = [kval (.int .i64 (p : Int)), kval (.int .i64 (n : Int)), kval (.int .i64 ((p + n : Nat) : Int)), kval (.string ⟨s.toArray⟩), kval (.int .i64 (s.length : Int)), kval (.bool true), kval (.bool true), kval (.int .i64 (n : Int)), kval (.bool true), kval (.bool true), kval (.bool true), kval (.string ⟨s.toArray⟩), kval (.int .i64 (p : Int)), kval (.int .i64 (n : Int)), kval (.int .i64 ((p + n : Nat) : Int)), kval (.int .u8 ((bt s (p + n)).toNat : Int)), kval (.string ⟨s.toArray⟩), kval (.int .i64 (p : Int)), kval (.int .i64 (n : Int)), kval (.int .i64 ((p + n : Nat) : Int)), kval (.int .i64 (far : Int)), kval (.int .i64 ((p - far + n : Nat) : Int)), kval (.int .u8 ((bt s (p - far + n)).toNat : Int)), kval (.bool false), kval (.bool false)] := ⟨_, rfl⟩
    have K0 := getK hKL 0
    have K1 := getK hKL 1
    have K2 := getK hKL 2
    have K3 := getK hKL 3
    have K4 := getK hKL 4
    have K5 := getK hKL 5
    have K6 := getK hKL 6
    have K7 := getK hKL 7
    have K8 := getK hKL 8
    have K9 := getK hKL 9
    have K10 := getK hKL 10
    have K11 := getK hKL 11
    have K12 := getK hKL 12
    have K13 := getK hKL 13
    have K14 := getK hKL 14
    have K15 := getK hKL 15
    have K16 := getK hKL 16
    have K17 := getK hKL 17
    have K18 := getK hKL 18
    have K19 := getK hKL 19
    have K20 := getK hKL 20
    have K21 := getK hKL 21
    have K22 := getK hKL 22
    have K23 := getK hKL 23
    have K24 := getK hKL 24
    clear hKL
    refine wp_region_kd 36 (by kernel_rfl) (by kernel_rfl) (by kernel_rfl) F0.size KL ?_ ?_
    · refine ⟨?_, ?_, ?_, ?_, ?_, ?_, ?_, ?_, ?_, ?_, ?_, ?_, ?_, ?_, ?_, ?_, ?_, ?_, ?_, ?_, ?_, ?_, ?_, ?_, ?_, trivial⟩
      · exact asksY rfl fun a W hS hh hd => giv_run (run_mv rfl (eval_tmp (hh 1 _ rfl (F0.at 1 rfl)))) K0
      · exact asksY rfl fun a W hS hh hd => giv_run (run_mv rfl (eval_tmp (hh 7 _ rfl (F0.at 7 rfl)))) K1
      · exact asksY rfl fun a W hS hh hd => giv_run (run_add (r := ((p + n : Nat) : Int)) rfl (eval_tmp (hd.vl 0 8 (by kernel_rfl) K0)) (eval_tmp (hd.vl 1 9 (by kernel_rfl) K1)) (by rw [IntKind.wrap_i64]; omega)) K2
      · exact asksY rfl fun a W hS hh hd => giv_run (run_mv rfl (eval_tmp (hh 0 _ rfl (F0.at 0 rfl)))) K3
      · exact asksY rfl fun a W hS hh hd => giv_run (run_len rfl (eval_tmp (hd.vl 3 11 (by kernel_rfl) K3)) rfl Tryd.underlying9) K4
      · exact asksY rfl fun a W hS hh hd => giv_run (run_lss rfl (eval_tmp (hd.vl 2 10 (by kernel_rfl) K2)) (eval_tmp (hd.vl 4 12 (by kernel_rfl) K4)) (decide_eq_true (by omega))) K5
      · exact asksY rfl fun a W hS hh hd => giv_run (run_mv rfl (eval_tmp (hd.vl 5 13 (by kernel_rfl) K5))) K6
      · refine asks_mk fun a W hS hh hd => ⟨wanted_of (j := 6) (s := 14) (by kernel_rfl) (hd.vl 6 14 (by kernel_rfl) K6), ?_⟩
        exact giv_run (run_mv rfl (eval_tmp (hh 7 _ rfl (F0.at 7 rfl)))) K7
      · refine asks_mk fun a W hS hh hd => ⟨wanted_of (j := 6) (s := 14) (by kernel_rfl) (hd.vl 6 14 (by kernel_rfl) K6), ?_⟩
        exact giv_run (run_lss rfl (eval_tmp (hd.vl 7 15 (by kernel_rfl) K7)) rfl (decide_eq_true (by omega))) K8
      · exact asksY rfl fun a W hS hh hd => giv_run (run_pick rfl (eval_tmp (hd.vl 6 14 (by kernel_rfl) K6)) (eval_tmp (hd.vl 8 16 (by kernel_rfl) K8)) rfl) K9
      · exact asksY rfl fun a W hS hh hd => giv_run (run_mv rfl (eval_tmp (hd.vl 9 17 (by kernel_rfl) K9))) K10
      · refine asks_mk fun a W hS hh hd => ⟨wanted_of (j := 10) (s := 18) (by kernel_rfl) (hd.vl 10 18 (by kernel_rfl) K10), ?_⟩
        exact giv_run (run_mv rfl (eval_tmp (hh 0 _ rfl (F0.at 0 rfl)))) K11
      · refine asks_mk fun a W hS hh hd => ⟨wanted_of (j := 10) (s := 18) (by kernel_rfl) (hd.vl 10 18 (by kernel_rfl) K10), ?_⟩
        exact giv_run (run_mv rfl (eval_tmp (hh 1 _ rfl (F0.at 1 rfl)))) K12
      · refine asks_mk fun a W hS hh hd => ⟨wanted_of (j := 10) (s := 18) (by kernel_rfl) (hd.vl 10 18 (by kernel_rfl) K10), ?_⟩
        exact giv_run (run_mv rfl (eval_tmp (hh 7 _ rfl (F0.at 7 rfl)))) K13
      · refine asks_mk fun a W hS hh hd => ⟨wanted_of (j := 10) (s := 18) (by kernel_rfl) (hd.vl 10 18 (by kernel_rfl) K10), ?_⟩
        exact giv_run (run_add (r := ((p + n : Nat) : Int)) rfl (eval_tmp (hd.vl 12 20 (by kernel_rfl) K12)) (eval_tmp (hd.vl 13 21 (by kernel_rfl) K13)) (by rw [IntKind.wrap_i64]; omega)) K14
      · refine asks_mk fun a W hS hh hd => ⟨wanted_of (j := 10) (s := 18) (by kernel_rfl) (hd.vl 10 18 (by kernel_rfl) K10), ?_⟩
        exact giv_run (run_sAt (n := (p + n)) rfl (eval_tmp (hd.vl 11 19 (by kernel_rfl) K11)) (eval_tmp (hd.vl 14 22 (by kernel_rfl) K14)) Tryd.underlying9 rfl (by omega)) K15
      · refine asks_mk fun a W hS hh hd => ⟨wanted_of (j := 10) (s := 18) (by kernel_rfl) (hd.vl 10 18 (by kernel_rfl) K10), ?_⟩
        exact giv_run (run_mv rfl (eval_tmp (hh 0 _ rfl (F0.at 0 rfl)))) K16
      · refine asks_mk fun a W hS hh hd => ⟨wanted_of (j := 10) (s := 18) (by kernel_rfl) (hd.vl 10 18 (by kernel_rfl) K10), ?_⟩
        exact giv_run (run_mv rfl (eval_tmp (hh 1 _ rfl (F0.at 1 rfl)))) K17
      · refine asks_mk fun a W hS hh hd => ⟨wanted_of (j := 10) (s := 18) (by kernel_rfl) (hd.vl 10 18 (by kernel_rfl) K10), ?_⟩
        exact giv_run (run_mv rfl (eval_tmp (hh 7 _ rfl (F0.at 7 rfl)))) K18
      · refine asks_mk fun a W hS hh hd => ⟨wanted_of (j := 10) (s := 18) (by kernel_rfl) (hd.vl 10 18 (by kernel_rfl) K10), ?_⟩
        exact giv_run (run_add (r := ((p + n : Nat) : Int)) rfl (eval_tmp (hd.vl 17 25 (by kernel_rfl) K17)) (eval_tmp (hd.vl 18 26 (by kernel_rfl) K18)) (by rw [IntKind.wrap_i64]; omega)) K19
      · refine asks_mk fun a W hS hh hd => ⟨wanted_of (j := 10) (s := 18) (by kernel_rfl) (hd.vl 10 18 (by kernel_rfl) K10), ?_⟩
        exact giv_run (run_mv rfl (eval_tmp (hh 2 _ rfl (F0.at 2 rfl)))) K20
      · refine asks_mk fun a W hS hh hd => ⟨wanted_of (j := 10) (s := 18) (by kernel_rfl) (hd.vl 10 18 (by kernel_rfl) K10), ?_⟩
        exact giv_run (run_sub (r := ((p - far + n : Nat) : Int)) rfl (eval_tmp (hd.vl 19 27 (by kernel_rfl) K19)) (eval_tmp (hd.vl 20 28 (by kernel_rfl) K20)) (by rw [IntKind.wrap_i64]; omega)) K21
      · refine asks_mk fun a W hS hh hd => ⟨wanted_of (j := 10) (s := 18) (by kernel_rfl) (hd.vl 10 18 (by kernel_rfl) K10), ?_⟩
        exact giv_run (run_sAt (n := (p - far + n)) rfl (eval_tmp (hd.vl 16 24 (by kernel_rfl) K16)) (eval_tmp (hd.vl 21 29 (by kernel_rfl) K21)) Tryd.underlying9 rfl (by omega)) K22
      · refine asks_mk fun a W hS hh hd => ⟨wanted_of (j := 10) (s := 18) (by kernel_rfl) (hd.vl 10 18 (by kernel_rfl) K10), ?_⟩
        exact giv_run (run_eqi rfl (eval_tmp (hd.vl 15 23 (by kernel_rfl) K15)) (eval_tmp (hd.vl 22 30 (by kernel_rfl) K22)) (beq_eq_false_iff_ne.2 (by omega))) K23
      · exact asksY rfl fun a W hS hh hd => giv_run (run_pick rfl (eval_tmp (hd.vl 10 18 (by kernel_rfl) K10)) (eval_tmp (hd.vl 23 31 (by kernel_rfl) K23)) rfl) K24
    · intro a1 w2 hb2 hK
      have e0 := hK.vl 0 8 (by kernel_rfl) K0
      have e1 := hK.vl 1 9 (by kernel_rfl) K1
      have e2 := hK.vl 2 10 (by kernel_rfl) K2
      have e3 := hK.vl 3 11 (by kernel_rfl) K3
      have e4 := hK.vl 4 12 (by kernel_rfl) K4
      have e5 := hK.vl 5 13 (by kernel_rfl) K5
      have e6 := hK.vl 6 14 (by kernel_rfl) K6
      have e7 := hK.vl 7 15 (by kernel_rfl) K7
      have e8 := hK.vl 8 16 (by kernel_rfl) K8
      have e9 := hK.vl 9 17 (by kernel_rfl) K9
      have e10 := hK.vl 10 18 (by kernel_rfl) K10
      have e11 := hK.vl 11 19 (by kernel_rfl) K11
      have e12 := hK.vl 12 20 (by kernel_rfl) K12
      have e13 := hK.vl 13 21 (by kernel_rfl) K13
      have e14 := hK.vl 14 22 (by kernel_rfl) K14
      have e15 := hK.vl 15 23 (by kernel_rfl) K15
      have e16 := hK.vl 16 24 (by kernel_rfl) K16
      have e17 := hK.vl 17 25 (by kernel_rfl) K17
      have e18 := hK.vl 18 26 (by kernel_rfl) K18
      have e19 := hK.vl 19 27 (by kernel_rfl) K19
      have e20 := hK.vl 20 28 (by kernel_rfl) K20
      have e21 := hK.vl 21 29 (by kernel_rfl) K21
      have e22 := hK.vl 22 30 (by kernel_rfl) K22
      have e23 := hK.vl 23 31 (by kernel_rfl) K23
      have e24 := hK.vl 24 32 (by kernel_rfl) K24
      have F1 : Fr a1 36 [(0, (.string ⟨s.toArray⟩)), (1, (.int .i64 (p : Int))), (2, (.int .i64 (far : Int))), (7, (.int .i64 (n : Int))), (32, (.bool false))] := (hK.fr F0 [_, _, _, _, _, _, _, _, _, _, _, _, _, _, _, _, _, _, _, _, _, _, _, _, _] ⟨e0, e1, e2, e3, e4, e5, e6, e7, e8, e9, e10, e11, e12, e13, e14, e15, e16, e17, e18, e19, e20, e21, e22, e23, e24, trivial⟩).sub ⟨rfl, rfl, rfl, rfl, rfl, trivial⟩
      have M1 := M0.grow hb2
      clear hK K0 e0 K1 e1 K2 e2 K3 e3 K4 e4 K5 e5 K6 e6 K7 e7 K8 e8 K9 e9 K10 e10 K11 e11 K12 e12 K13 e13 K14 e14 K15 e15 K16 e16 K17 e17 K18 e18 K19 e19 K20 e20 K21 e21 K22 e22 K23 e23 K24 e24
      clear F0 M0
      refine nx ?_
      refine wp_cond_false (F1.ev 32 rfl) ?_
      refine wp_exit ?_
      refine nxExit ?_
      refine nxExit ?_
      refine bkHere ?_
      refine nx ?_
      refine wsl ?_
      refine mvS F1 rfl rfl rfl rfl rfl fun a2 F2 => ?_
      refine asS F2 rfl rfl rfl rfl rfl fun a3 F3 => ?_
      refine sn ?_
      clear F1 F2
      refine wp_ret ?_
      exact ret1 F3 rfl rfl ⟨by rw [hres], M1.below⟩
set_option maxRecDepth 100000 in
set_option maxHeartbeats 1000000 in
theorem rbest_any (s : List UInt8) (p : Nat) (w : World) (hs : s.length ≤ 2 ^ 32) (hp : p ≤ s.length) : Calls Tryd.prog 79 #[.string ⟨s.toArray⟩, .int .i64 (p : Int)] w fun e w' => e = .returned (.tuple #[.int .i64 ((bestS s p).1 : Int), .int .i64 ((bestS s p).2 : Int)]) ∧ Below w.heap.size w w' := by
  refine walk_enter Tryd.func79 rfl rfl rfl fun a0 F0 => ?_
  have M0 := Mem.new w
  refine wsl ?_
  refine sr (v := (.int .i64 0)) F0 (run_as rfl rfl) rfl rfl rfl fun a1 F1 => ?_
  refine sr (v := (.int .i64 0)) F1 (run_as rfl rfl) rfl rfl rfl fun a2 F2 => ?_
  refine sn ?_
  clear F0 F1
  refine wsl ?_
  refine sr (v := (.int .i64 0)) F2 (run_as rfl rfl) rfl rfl rfl fun a3 F3 => ?_
  refine sr (v := (.int .i64 0)) F3 (run_as rfl rfl) rfl rfl rfl fun a4 F4 => ?_
  refine sn ?_
  clear F2 F3
  refine wp_seq ?_
  refine wsl ?_
  refine sr (v := (.int .i64 1)) F4 (run_as rfl rfl) rfl rfl rfl fun a5 F5 => ?_
  refine sn ?_
  clear F4
  refine wp_block ?_
  refine wkLoop (fun m a w2 => ∃ j x6 x7 : Nat, j ≤ min p 65535 ∧ m = min p 65535 - j ∧ bestTo s p j = (x6, x7) ∧ Fr a 30 [(0, .string ⟨s.toArray⟩), (1, .int .i64 (p : Int)), (6, .int .i64 (x6 : Int)), (7, .int .i64 (x7 : Int)), (8, .int .i64 ((j + 1 : Nat) : Int))] ∧ Mem w [] w2) (min p 65535) ⟨0, 0, 0, Nat.zero_le _, rfl, rfl, F5.sub ⟨rfl, rfl, rfl, rfl, rfl, trivial⟩, M0⟩ ?_
  rintro m a0 w1 ⟨j, x6, x7, hj, rfl, hbt, F0, M0⟩
  by_cases h1 : j + 1 ≤ p
  · by_cases h2 : j + 1 ≤ 65535
    · obtain ⟨x, hx⟩ : ∃ x, sameS s p (j + 1) = x := ⟨_, rfl⟩
      have hst : bestTo s p (j + 1) = if x6 < x then (x, j + 1) else (x6, x7) := by rw [bestTo, hbt, hx]
      by_cases h3 : x6 < x
      · have hxl := sameS_le s p (j + 1)
        have hms : mostS s p = min 131 (s.length - p) := rfl
        refine wp_seq ?_
        refine wsl ?_
        refine mvS F0 rfl rfl rfl rfl rfl fun a1 F1 => ?_
        refine mvS F1 rfl rfl rfl rfl rfl fun a2 F2 => ?_
        refine sr (v := (.bool true)) F2 (run_leq rfl (F2.ev 10 rfl) (F2.ev 11 rfl) (decide_eq_true (by omega))) rfl rfl rfl fun a3 F3 => ?_
        refine mvS F3 rfl rfl rfl rfl rfl fun a4 F4 => ?_
        refine sq (v := (.int .i64 ((j + 1 : Nat) : Int))) F4 (wantedG F4 rfl rfl rfl rfl rfl) (run_mv rfl (F4.ev 8 rfl)) rfl (by decide) fun a5 F5 => ?_
        refine sq (v := (.bool true)) F5 (wantedG F5 rfl rfl rfl rfl rfl) (run_leq rfl (F5.ev 14 rfl) rfl (decide_eq_true (by omega))) rfl (by decide) fun a6 F6 => ?_
        refine sr (v := (.bool true)) F6 (run_pick rfl (F6.ev 13 rfl) (F6.ev 15 rfl) rfl) rfl rfl rfl fun a7 F7 => ?_
        refine sn ?_
        clear F0 F1 F2 F3 F4 F5 F6
        refine cts (F7.ev 16 rfl) ?_
        refine wp_seq ?_
        refine wp_block ?_
        refine wsl ?_
        refine mvS F7 rfl rfl rfl rfl rfl fun a8 F8 => ?_
        refine mvS F8 rfl rfl rfl rfl rfl fun a9 F9 => ?_
        refine mvS F9 rfl rfl rfl rfl rfl fun a10 F10 => ?_
        refine sqC (v := (.int .i64 (x : Int))) F10 M0 (wantedS rfl) (run_call rfl Tryd.func99 (by kernel_rfl) rfl (mapE3 (F10.ev 19 rfl) (F10.ev 20 rfl) (F10.ev 21 rfl))) rfl (by decide) ((by rw [← hx]; exact rsame_any s p (j + 1) w1 hs (by omega) (by omega) hp)) fun a11 w2 hb2 F11 M1 => ?_
        refine asS F11 rfl rfl rfl rfl rfl fun a12 F12 => ?_
        refine sn ?_
        clear F7 F8 F9 F10 F11 M0
        refine wsl ?_
        refine mvS F12 rfl rfl rfl rfl rfl fun a13 F13 => ?_
        refine mvS F13 rfl rfl rfl rfl rfl fun a14 F14 => ?_
        refine sr (v := (.bool true)) F14 (run_gtr rfl (F14.ev 23 rfl) (F14.ev 24 rfl) (decide_eq_true (by omega))) rfl rfl rfl fun a15 F15 => ?_
        refine sn ?_
        clear F12 F13 F14
        refine wp_cond_true (F15.ev 25 rfl) ?_
        refine wp_region_lit ?_
        refine mvS F15 rfl rfl rfl rfl rfl fun a16 F16 => ?_
        refine mvS F16 rfl rfl rfl rfl rfl fun a17 F17 => ?_
        refine asS F17 rfl rfl rfl rfl rfl fun a18 F18 => ?_
        refine asS F18 rfl rfl rfl rfl rfl fun a19 F19 => ?_
        refine sqEnd ?_
        clear F15 F16 F17 F18
        refine bkEnd ?_
        refine nx ?_
        refine wp_region_lit ?_
        refine mvS F19 rfl rfl rfl rfl rfl fun a20 F20 => ?_
        refine sr F20 (run_add (r := ((j + 1 + 1 : Nat) : Int)) rfl (F20.ev 17 rfl) rfl (by rw [IntKind.wrap_i64]; omega)) rfl rfl rfl fun a21 F21 => ?_
        refine asS F21 rfl rfl rfl rfl rfl fun a22 F22 => ?_
        refine sn ?_
        clear F19 F20 F21
        exact ⟨_, by omega, j + 1, x, j + 1, by omega, rfl, by rw [hst, if_pos h3], F22.sub ⟨rfl, rfl, rfl, rfl, rfl, trivial⟩, M1⟩
      · skip
        refine wp_seq ?_
        refine wsl ?_
        refine mvS F0 rfl rfl rfl rfl rfl fun a1 F1 => ?_
        refine mvS F1 rfl rfl rfl rfl rfl fun a2 F2 => ?_
        refine sr (v := (.bool true)) F2 (run_leq rfl (F2.ev 10 rfl) (F2.ev 11 rfl) (decide_eq_true (by omega))) rfl rfl rfl fun a3 F3 => ?_
        refine mvS F3 rfl rfl rfl rfl rfl fun a4 F4 => ?_
        refine sq (v := (.int .i64 ((j + 1 : Nat) : Int))) F4 (wantedG F4 rfl rfl rfl rfl rfl) (run_mv rfl (F4.ev 8 rfl)) rfl (by decide) fun a5 F5 => ?_
        refine sq (v := (.bool true)) F5 (wantedG F5 rfl rfl rfl rfl rfl) (run_leq rfl (F5.ev 14 rfl) rfl (decide_eq_true (by omega))) rfl (by decide) fun a6 F6 => ?_
        refine sr (v := (.bool true)) F6 (run_pick rfl (F6.ev 13 rfl) (F6.ev 15 rfl) rfl) rfl rfl rfl fun a7 F7 => ?_
        refine sn ?_
        clear F0 F1 F2 F3 F4 F5 F6
        refine cts (F7.ev 16 rfl) ?_
        refine wp_seq ?_
        refine wp_block ?_
        refine wsl ?_
        refine mvS F7 rfl rfl rfl rfl rfl fun a8 F8 => ?_
        refine mvS F8 rfl rfl rfl rfl rfl fun a9 F9 => ?_
        refine mvS F9 rfl rfl rfl rfl rfl fun a10 F10 => ?_
        refine sqC (v := (.int .i64 (x : Int))) F10 M0 (wantedS rfl) (run_call rfl Tryd.func99 (by kernel_rfl) rfl (mapE3 (F10.ev 19 rfl) (F10.ev 20 rfl) (F10.ev 21 rfl))) rfl (by decide) ((by rw [← hx]; exact rsame_any s p (j + 1) w1 hs (by omega) (by omega) hp)) fun a11 w2 hb2 F11 M1 => ?_
        refine asS F11 rfl rfl rfl rfl rfl fun a12 F12 => ?_
        refine sn ?_
        clear F7 F8 F9 F10 F11 M0
        refine wsl ?_
        refine mvS F12 rfl rfl rfl rfl rfl fun a13 F13 => ?_
        refine mvS F13 rfl rfl rfl rfl rfl fun a14 F14 => ?_
        refine sr (v := (.bool false)) F14 (run_gtr rfl (F14.ev 23 rfl) (F14.ev 24 rfl) (decide_eq_false (by omega))) rfl rfl rfl fun a15 F15 => ?_
        refine sn ?_
        clear F12 F13 F14
        refine wp_cond_false (F15.ev 25 rfl) ?_
        refine wp_skip ?_
        refine bkEnd ?_
        refine nx ?_
        refine wp_region_lit ?_
        refine mvS F15 rfl rfl rfl rfl rfl fun a16 F16 => ?_
        refine sr F16 (run_add (r := ((j + 1 + 1 : Nat) : Int)) rfl (F16.ev 17 rfl) rfl (by rw [IntKind.wrap_i64]; omega)) rfl rfl rfl fun a17 F17 => ?_
        refine asS F17 rfl rfl rfl rfl rfl fun a18 F18 => ?_
        refine sn ?_
        clear F15 F16 F17
        exact ⟨_, by omega, j + 1, x6, x7, by omega, rfl, by rw [hst, if_neg h3], F18.sub ⟨rfl, rfl, rfl, rfl, rfl, trivial⟩, M1⟩
    · have hres : bestS s p = (x6, x7) := by unfold bestS; rw [show min p 65535 = j by omega, hbt]
      refine wp_seq ?_
      refine wsl ?_
      refine mvS F0 rfl rfl rfl rfl rfl fun a1 F1 => ?_
      refine mvS F1 rfl rfl rfl rfl rfl fun a2 F2 => ?_
      refine sr (v := (.bool true)) F2 (run_leq rfl (F2.ev 10 rfl) (F2.ev 11 rfl) (decide_eq_true (by omega))) rfl rfl rfl fun a3 F3 => ?_
      refine mvS F3 rfl rfl rfl rfl rfl fun a4 F4 => ?_
      refine sq (v := (.int .i64 ((j + 1 : Nat) : Int))) F4 (wantedG F4 rfl rfl rfl rfl rfl) (run_mv rfl (F4.ev 8 rfl)) rfl (by decide) fun a5 F5 => ?_
      refine sq (v := (.bool false)) F5 (wantedG F5 rfl rfl rfl rfl rfl) (run_leq rfl (F5.ev 14 rfl) rfl (decide_eq_false (by omega))) rfl (by decide) fun a6 F6 => ?_
      refine sr (v := (.bool false)) F6 (run_pick rfl (F6.ev 13 rfl) (F6.ev 15 rfl) rfl) rfl rfl rfl fun a7 F7 => ?_
      refine sn ?_
      clear F0 F1 F2 F3 F4 F5 F6
      refine wp_cond_false (F7.ev 16 rfl) ?_
      refine wp_exit ?_
      refine nxExit ?_
      refine nxExit ?_
      refine bkHere ?_
      refine nx ?_
      refine wsl ?_
      refine mvS F7 rfl rfl rfl rfl rfl fun a8 F8 => ?_
      refine mvS F8 rfl rfl rfl rfl rfl fun a9 F9 => ?_
      refine asS F9 rfl rfl rfl rfl rfl fun a10 F10 => ?_
      refine asS F10 rfl rfl rfl rfl rfl fun a11 F11 => ?_
      refine sn ?_
      clear F7 F8 F9 F10
      refine wp_ret ?_
      exact ret2 F11 rfl rfl rfl ⟨by rw [hres], M0.below⟩
  · have hres : bestS s p = (x6, x7) := by unfold bestS; rw [show min p 65535 = j by omega, hbt]
    refine wp_seq ?_
    refine wsl ?_
    refine mvS F0 rfl rfl rfl rfl rfl fun a1 F1 => ?_
    refine mvS F1 rfl rfl rfl rfl rfl fun a2 F2 => ?_
    refine sr (v := (.bool false)) F2 (run_leq rfl (F2.ev 10 rfl) (F2.ev 11 rfl) (decide_eq_false (by omega))) rfl rfl rfl fun a3 F3 => ?_
    refine mvS F3 rfl rfl rfl rfl rfl fun a4 F4 => ?_
    refine sqSkip F4 (unwantedG F4 rfl rfl rfl rfl rfl) rfl (by decide) fun a5 F5 => ?_
    refine sqSkip F5 (unwantedG F5 rfl rfl rfl rfl rfl) rfl (by decide) fun a6 F6 => ?_
    refine sr (v := (.bool false)) F6 (run_pick rfl (F6.ev 13 rfl) (F6.ev 15 rfl) rfl) rfl rfl rfl fun a7 F7 => ?_
    refine sn ?_
    clear F0 F1 F2 F3 F4 F5 F6
    refine wp_cond_false (F7.ev 16 rfl) ?_
    refine wp_exit ?_
    refine nxExit ?_
    refine nxExit ?_
    refine bkHere ?_
    refine nx ?_
    refine wsl ?_
    refine mvS F7 rfl rfl rfl rfl rfl fun a8 F8 => ?_
    refine mvS F8 rfl rfl rfl rfl rfl fun a9 F9 => ?_
    refine asS F9 rfl rfl rfl rfl rfl fun a10 F10 => ?_
    refine asS F10 rfl rfl rfl rfl rfl fun a11 F11 => ?_
    refine sn ?_
    clear F7 F8 F9 F10
    refine wp_ret ?_
    exact ret2 F11 rfl rfl rfl ⟨by rw [hres], M0.below⟩
set_option maxRecDepth 100000 in
set_option maxHeartbeats 1000000 in
theorem rrun_any (l : List UInt8) (w : World) (hl : l.length ≤ 2 ^ 38) : Calls Tryd.prog 80 #[.string ⟨l.toArray⟩] w fun e w' => e = .returned (.string ⟨(runS l).toArray⟩) ∧ Below w.heap.size w w' := by
  refine walk_enter Tryd.func80 rfl rfl rfl fun a0 F0 => ?_
  have M0 := Mem.new w
  refine wsl ?_
  refine sr (v := (.string ⟨List.toArray []⟩)) F0 (run_as rfl rfl) rfl rfl rfl fun a1 F1 => ?_
  refine sn ?_
  clear F0
  refine wsl ?_
  refine sr (v := (.string ⟨List.toArray []⟩)) F1 (run_as rfl rfl) rfl rfl rfl fun a2 F2 => ?_
  refine sn ?_
  clear F1
  refine wp_seq ?_
  refine wp_block ?_
  refine wkLoop (fun m a w2 => ∃ o2 l2 : List UInt8, m = l2.length ∧ o2 ++ runS l2 = runS l ∧ o2.length + 2 * l2.length ≤ 2 ^ 40 ∧ Fr a 30 [(0, .string ⟨l2.toArray⟩), (3, .string ⟨o2.toArray⟩)] ∧ Mem w [] w2) l.length ⟨[], l, rfl, rfl, by simp; omega, F2.sub ⟨rfl, rfl, trivial⟩, M0⟩ ?_
  rintro m a0 w1 ⟨o2, l2, rfl, he, hlen, F0, M0⟩
  by_cases h1 : 128 < l2.length
  · have hne : l2 ≠ [] := List.length_pos_iff.1 (by omega)
    rw [runS_cons hne, show min l2.length 128 - 1 = 127 by omega] at he
    refine wp_seq ?_
    refine wsl ?_
    refine mvS F0 rfl rfl rfl rfl rfl fun a1 F1 => ?_
    refine sr F1 (run_len rfl (F1.ev 4 rfl) rfl Tryd.underlying9) rfl rfl rfl fun a2 F2 => ?_
    refine sr (v := (.bool true)) F2 (run_gtr rfl (F2.ev 5 rfl) rfl (decide_eq_true (by omega))) rfl rfl rfl fun a3 F3 => ?_
    refine sn ?_
    clear F0 F1 F2
    refine cts (F3.ev 6 rfl) ?_
    refine wp_block ?_
    refine wp_seq ?_
    obtain ⟨KL, hKL⟩ : ∃ KL, KL = [kval (.string ⟨o2.toArray⟩), kbytes 5 [127], kval (.string ⟨List.toArray [127]⟩), kval (.string ⟨(o2 ++ [127]).toArray⟩), kval (.string ⟨l2.toArray⟩), kval (.string ⟨(l2.take 128).toArray⟩), kval (.string ⟨(o2 ++ [127] ++ (l2.take 128)).toArray⟩)] := ⟨_, rfl⟩
    have K0 := getK hKL 0
    have K1 := getK hKL 1
    have K2 := getK hKL 2
    have K3 := getK hKL 3
    have K4 := getK hKL 4
    have K5 := getK hKL 5
    have K6 := getK hKL 6
    have HKL : KL.length ≤ 7 := by rw [hKL]; exact Nat.le_refl _
    clear hKL
    refine wp_region_kdTail2 30 7 (by kernel_rfl) (by kernel_rfl) (by kernel_rfl) (by kernel_rfl) F3.size KL HKL ?_ ?_
    · refine ⟨?_, ?_, ?_, ?_, ?_, ?_, ?_, trivial⟩
      · exact asksHY rfl fun a W hS hh hd => giv_run (run_mv rfl (eval_tmp (hh 3 _ rfl (F3.at 3 rfl)))) K0
      · exact asksHY rfl fun a W hS hh hd => giv_bytes [127] 5 (run_bytes1 rfl rfl) K1
      · refine asksH_mk fun a W hS hh hd => ⟨wanted_yes rfl, ?_⟩
        obtain ⟨g1, c1, e1, b1⟩ := Dep.bytes hd (j := 1) (s := 8) (by kernel_rfl) K1
        exact giv_run (run_cv rfl (eval_tmp e1) (run_strBlk (cap := c1) (l := [127]) rfl b1)) K2
      · exact asksHY rfl fun a W hS hh hd => giv_run (run_cat rfl (eval_tmp (hd.vl 0 7 (by kernel_rfl) K0)) (eval_tmp (hd.vl 2 9 (by kernel_rfl) K2)) (by first | omega | decide | (simp; done) | (simp; omega))) K3
      · exact asksHY rfl fun a W hS hh hd => giv_run (run_mv rfl (eval_tmp (hh 0 _ rfl (F3.at 0 rfl)))) K4
      · exact asksHY rfl fun a W hS hh hd => giv_run (run_sTo (n := 128) rfl (eval_tmp (hd.vl 4 11 (by kernel_rfl) K4)) rfl Tryd.underlying9 (by omega) (by omega)) K5
      · exact asksHY rfl fun a W hS hh hd => giv_run (run_cat rfl (eval_tmp (hd.vl 3 10 (by kernel_rfl) K3)) (eval_tmp (hd.vl 5 12 (by kernel_rfl) K5)) (by first | omega | decide | (simp; done) | (simp; omega))) K6
    · intro a4 w2 hb2 hK
      have e0 := hK.hvl 0 7 rfl (by kernel_rfl) K0
      obtain ⟨v0, e1, hpv0⟩ := hK.hget (i := 1) (s := 8) rfl (by kernel_rfl)
      rw [K1] at hpv0
      have e2 := hK.hvl 2 9 rfl (by kernel_rfl) K2
      have e3 := hK.hvl 3 10 rfl (by kernel_rfl) K3
      have e4 := hK.hvl 4 11 rfl (by kernel_rfl) K4
      have e5 := hK.hvl 5 12 rfl (by kernel_rfl) K5
      have e6 := hK.hvl 6 13 rfl (by kernel_rfl) K6
      have F4 : Fr a4 30 [(0, (.string ⟨l2.toArray⟩)), (3, (.string ⟨o2.toArray⟩)), (4, (.string ⟨l2.toArray⟩)), (5, (.int .i64 (l2.length : Int))), (6, (.bool true)), (13, (.string ⟨(o2 ++ [127] ++ (l2.take 128)).toArray⟩))] := (hK.hfr F3 [_, _, _, _, _, _, _] ⟨e0, e1, e2, e3, e4, e5, e6, trivial⟩).sub ⟨rfl, rfl, rfl, rfl, rfl, rfl, trivial⟩
      have M1 := M0.grow hb2
      clear hK K0 e0 K1 e1 K2 e2 K3 e3 K4 e4 K5 e5 K6 e6 HKL
      simp only [List.drop_succ_cons, List.drop_zero]
      refine asS F4 rfl rfl rfl rfl rfl fun a5 F5 => ?_
      refine sn ?_
      clear F3 F4 M0
      refine wp_region_lit ?_
      refine mvS F5 rfl rfl rfl rfl rfl fun a6 F6 => ?_
      refine sr (v := (.string ⟨(l2.drop 128).toArray⟩)) F6 (run_sFrom (m := 128) rfl (F6.ev 14 rfl) rfl Tryd.underlying9 (by omega) (by omega)) rfl rfl rfl fun a7 F7 => ?_
      refine asS F7 rfl rfl rfl rfl rfl fun a8 F8 => ?_
      refine sqEnd ?_
      clear F5 F6 F7
      refine bkEnd ?_
      refine nx ?_
      exact ⟨_, by rw [List.length_drop]; omega, _, l2.drop 128, rfl, by rw [← he]; simp, by simp; omega, F8.sub ⟨rfl, rfl, trivial⟩, M1⟩
  by_cases h2 : l2.length = 0
  · have hres : runS l = o2 := by rw [← he, List.length_eq_zero_iff.1 h2, runS_nil, List.append_nil]
    refine wp_seq ?_
    refine wsl ?_
    refine mvS F0 rfl rfl rfl rfl rfl fun a1 F1 => ?_
    refine sr F1 (run_len rfl (F1.ev 4 rfl) rfl Tryd.underlying9) rfl rfl rfl fun a2 F2 => ?_
    refine sr (v := (.bool false)) F2 (run_gtr rfl (F2.ev 5 rfl) rfl (decide_eq_false (by omega))) rfl rfl rfl fun a3 F3 => ?_
    refine sn ?_
    clear F0 F1 F2
    refine wp_cond_false (F3.ev 6 rfl) ?_
    refine wp_exit ?_
    refine nxExit ?_
    refine nxExit ?_
    refine bkHere ?_
    refine nx ?_
    refine wp_seq ?_
    refine wsl ?_
    refine mvS F3 rfl rfl rfl rfl rfl fun a4 F4 => ?_
    refine sr F4 (run_len rfl (F4.ev 16 rfl) rfl Tryd.underlying9) rfl rfl rfl fun a5 F5 => ?_
    refine sr (v := (.bool true)) F5 (run_eqi rfl (F5.ev 17 rfl) rfl (beq_iff_eq.2 (by omega))) rfl rfl rfl fun a6 F6 => ?_
    refine sn ?_
    clear F3 F4 F5
    refine wp_cond_true (F6.ev 18 rfl) ?_
    refine wsl ?_
    refine mvS F6 rfl rfl rfl rfl rfl fun a7 F7 => ?_
    refine asS F7 rfl rfl rfl rfl rfl fun a8 F8 => ?_
    refine sn ?_
    clear F6 F7
    refine wp_ret ?_
    refine nxRet ?_
    exact ret1 F8 rfl rfl ⟨by rw [hres], M0.below⟩
  have hne : l2 ≠ [] := List.length_pos_iff.1 (by omega)
  have hk : (UInt8.ofNat (l2.length - 1)).toNat = l2.length - 1 := by rw [UInt8.toNat_ofNat']; omega
  have hres : runS l = o2 ++ [UInt8.ofNat (l2.length - 1)] ++ l2 := by
    rw [← he, runS_cons hne, show min l2.length 128 = l2.length by omega, List.take_of_length_le (by omega), List.drop_eq_nil_of_le (by omega), runS_nil]
    simp
  refine wp_seq ?_
  refine wsl ?_
  refine mvS F0 rfl rfl rfl rfl rfl fun a1 F1 => ?_
  refine sr F1 (run_len rfl (F1.ev 4 rfl) rfl Tryd.underlying9) rfl rfl rfl fun a2 F2 => ?_
  refine sr (v := (.bool false)) F2 (run_gtr rfl (F2.ev 5 rfl) rfl (decide_eq_false (by omega))) rfl rfl rfl fun a3 F3 => ?_
  refine sn ?_
  clear F0 F1 F2
  refine wp_cond_false (F3.ev 6 rfl) ?_
  refine wp_exit ?_
  refine nxExit ?_
  refine nxExit ?_
  refine bkHere ?_
  refine nx ?_
  refine wp_seq ?_
  refine wsl ?_
  refine mvS F3 rfl rfl rfl rfl rfl fun a4 F4 => ?_
  refine sr F4 (run_len rfl (F4.ev 16 rfl) rfl Tryd.underlying9) rfl rfl rfl fun a5 F5 => ?_
  refine sr (v := (.bool false)) F5 (run_eqi rfl (F5.ev 17 rfl) rfl (beq_eq_false_iff_ne.2 (by omega))) rfl rfl rfl fun a6 F6 => ?_
  refine sn ?_
  clear F3 F4 F5
  refine cfs (F6.ev 18 rfl) ?_
  refine wsl ?_
  refine mvS F6 rfl rfl rfl rfl rfl fun a7 F7 => ?_
  refine mvS F7 rfl rfl rfl rfl rfl fun a8 F8 => ?_
  refine sr F8 (run_len rfl (F8.ev 21 rfl) rfl Tryd.underlying9) rfl rfl rfl fun a9 F9 => ?_
  refine sr F9 (run_sub (r := ((l2.length - 1 : Nat) : Int)) rfl (F9.ev 22 rfl) rfl (by rw [IntKind.wrap_i64]; omega)) rfl rfl rfl fun a10 F10 => ?_
  refine sr F10 (run_cvI (r := ((UInt8.ofNat (l2.length - 1)).toNat : Int)) rfl (F10.ev 23 rfl) Tryd.underlying3 Tryd.underlying5 (by rw [hk, IntKind.wrap_u8]; omega)) rfl rfl rfl fun a11 F11 => ?_
  refine sqBytes [(UInt8.ofNat (l2.length - 1))] F11 M0 (wantedS rfl) (run_bytes1 rfl (F11.ev 24 rfl)) rfl (by decide) fun g2 a12 w2 hgg2 hb2 F12 M1 => ?_
  refine sr (v := (.string ⟨List.toArray [(UInt8.ofNat (l2.length - 1))]⟩)) F12 (run_cv rfl (F12.ev 25 rfl) (run_strBlk (l := [(UInt8.ofNat (l2.length - 1))]) rfl (M1.at 0 rfl))) rfl rfl rfl fun a13 F13 => ?_
  refine sr (v := (.string ⟨(o2 ++ [(UInt8.ofNat (l2.length - 1))]).toArray⟩)) F13 (run_cat rfl (F13.ev 20 rfl) (F13.ev 26 rfl) (by first | omega | decide | (simp; done) | (simp; omega))) rfl rfl rfl fun a14 F14 => ?_
  refine mvS F14 rfl rfl rfl rfl rfl fun a15 F15 => ?_
  refine sr (v := (.string ⟨(o2 ++ [(UInt8.ofNat (l2.length - 1))] ++ l2).toArray⟩)) F15 (run_cat rfl (F15.ev 27 rfl) (F15.ev 28 rfl) (by first | omega | decide | (simp; done) | (simp; omega))) rfl rfl rfl fun a16 F16 => ?_
  refine asS F16 rfl rfl rfl rfl rfl fun a17 F17 => ?_
  refine sn ?_
  clear F6 F7 F8 F9 F10 F11 F12 F13 F14 F15 F16 M0
  refine wp_ret ?_
  exact ret1 F17 rfl rfl ⟨by rw [hres], M1.below⟩
set_option maxRecDepth 100000 in
set_option maxHeartbeats 1000000 in
theorem rpack_any (s : List UInt8) (w : World) (hs : s.length ≤ 2 ^ 32) : Calls Tryd.prog 45 #[.string ⟨s.toArray⟩] w fun e w' => e = .returned (.string ⟨(packS s).toArray⟩) ∧ Below w.heap.size w w' := by
  refine walk_enter Tryd.func45 rfl rfl rfl fun a0 F0 => ?_
  have M0 := Mem.new w
  refine wsl ?_
  refine sr (v := (.string ⟨List.toArray []⟩)) F0 (run_as rfl rfl) rfl rfl rfl fun a1 F1 => ?_
  refine sn ?_
  clear F0
  refine wsl ?_
  refine sr (v := (.string ⟨List.toArray []⟩)) F1 (run_as rfl rfl) rfl rfl rfl fun a2 F2 => ?_
  refine sr (v := (.string ⟨List.toArray []⟩)) F2 (run_as rfl rfl) rfl rfl rfl fun a3 F3 => ?_
  refine sn ?_
  clear F1 F2
  refine wsl ?_
  refine sr (v := (.int .i64 0)) F3 (run_as rfl rfl) rfl rfl rfl fun a4 F4 => ?_
  refine sn ?_
  clear F3
  refine wp_seq ?_
  refine wp_block ?_
  refine wkLoop (fun m a w2 => ∃ (o2 : List UInt8) (al p : Nat), al ≤ p ∧ p ≤ s.length ∧ m = s.length - p ∧ o2 ++ packT s al p = packS s ∧ Fr a 52 [(0, .string ⟨s.toArray⟩), (3, .string ⟨o2.toArray⟩), (4, .string ⟨((s.drop al).take (p - al)).toArray⟩), (5, .int .i64 (p : Int))] ∧ Mem w [] w2) s.length ⟨[], 0, 0, Nat.zero_le _, Nat.zero_le _, rfl, rfl, F4.sub ⟨rfl, rfl, rfl, rfl, trivial⟩, M0⟩ ?_
  rintro m a0 w1 ⟨o2, al, p, hal, hp, rfl, he, F0, M0⟩
  have hpk := pack_len s
  have hol : o2.length + (packT s al p).length = (packS s).length := by rw [← he, List.length_append]
  have hpl : ((s.drop al).take (p - al)).length = p - al := by rw [List.length_take, List.length_drop]; omega
  by_cases h1 : p < s.length
  · rw [packT_step al h1] at he
    obtain ⟨n, hn⟩ : ∃ n, (bestS s p).1 = n := ⟨_, rfl⟩
    obtain ⟨far, hfr⟩ : ∃ far, (bestS s p).2 = far := ⟨_, rfl⟩
    by_cases h4 : n < 4
    · rw [hn, if_pos h4] at he
      refine wp_seq ?_
      refine wsl ?_
      refine mvS F0 rfl rfl rfl rfl rfl fun a1 F1 => ?_
      refine mvS F1 rfl rfl rfl rfl rfl fun a2 F2 => ?_
      refine sr F2 (run_len rfl (F2.ev 9 rfl) rfl Tryd.underlying9) rfl rfl rfl fun a3 F3 => ?_
      refine sr (v := (.bool true)) F3 (run_lss rfl (F3.ev 8 rfl) (F3.ev 10 rfl) (decide_eq_true (by omega))) rfl rfl rfl fun a4 F4 => ?_
      refine sn ?_
      clear F0 F1 F2 F3
      refine cts (F4.ev 11 rfl) ?_
      refine wp_block ?_
      refine wsl ?_
      refine mvS F4 rfl rfl rfl rfl rfl fun a5 F5 => ?_
      refine mvS F5 rfl rfl rfl rfl rfl fun a6 F6 => ?_
      refine sqC (v := (.tuple #[(.int .i64 (n : Int)), (.int .i64 (far : Int))])) F6 M0 (wantedS rfl) (run_call rfl Tryd.func79 (by kernel_rfl) rfl (mapE2 (F6.ev 13 rfl) (F6.ev 14 rfl))) rfl (by decide) ((by rw [← hn, ← hfr]; exact rbest_any s p w1 hs (by omega))) fun a7 w2 hb2 F7 M1 => ?_
      refine mvS F7 rfl rfl rfl rfl rfl fun a8 F8 => ?_
      refine sr (v := (.int .i64 (n : Int))) F8 (run_ext rfl (F8.ev 12 rfl) rfl) rfl rfl rfl fun a9 F9 => ?_
      refine sr (v := (.int .i64 (far : Int))) F9 (run_ext rfl (F9.ev 12 rfl) rfl) rfl rfl rfl fun a10 F10 => ?_
      refine asS F10 rfl rfl rfl rfl rfl fun a11 F11 => ?_
      refine asS F11 rfl rfl rfl rfl rfl fun a12 F12 => ?_
      refine sn ?_
      clear F4 F5 F6 F7 F8 F9 F10 F11 M0
      refine wsl ?_
      refine mvS F12 rfl rfl rfl rfl rfl fun a13 F13 => ?_
      refine sr (v := (.bool true)) F13 (run_lss rfl (F13.ev 18 rfl) rfl (decide_eq_true (by omega))) rfl rfl rfl fun a14 F14 => ?_
      refine sn ?_
      clear F12 F13
      refine wp_cond_true (F14.ev 19 rfl) ?_
      refine wsl ?_
      refine mvS F14 rfl rfl rfl rfl rfl fun a15 F15 => ?_
      refine mvS F15 rfl rfl rfl rfl rfl fun a16 F16 => ?_
      refine mvS F16 rfl rfl rfl rfl rfl fun a17 F17 => ?_
      refine mvS F17 rfl rfl rfl rfl rfl fun a18 F18 => ?_
      refine sr F18 (run_add (r := ((p + 1 : Nat) : Int)) rfl (F18.ev 23 rfl) rfl (by rw [IntKind.wrap_i64]; omega)) rfl rfl rfl fun a19 F19 => ?_
      refine sr (v := (.string ⟨((s.drop p).take 1).toArray⟩)) F19 (run_sMidE (m := p) (m2 := (p + 1)) (by rw [show p + 1 - p = 1 by omega]) rfl (F19.ev 21 rfl) (F19.ev 22 rfl) (F19.ev 24 rfl) Tryd.underlying9 (by omega) (by omega) (by omega) (by omega)) rfl rfl rfl fun a20 F20 => ?_
      refine sr (v := (.string ⟨(((s.drop al).take (p - al)) ++ ((s.drop p).take 1)).toArray⟩)) F20 (run_cat rfl (F20.ev 20 rfl) (F20.ev 25 rfl) (by simp; omega)) rfl rfl rfl fun a21 F21 => ?_
      refine asS F21 rfl rfl rfl rfl rfl fun a22 F22 => ?_
      refine sn ?_
      clear F14 F15 F16 F17 F18 F19 F20 F21
      refine wp_region_lit ?_
      refine mvS F22 rfl rfl rfl rfl rfl fun a23 F23 => ?_
      refine sr F23 (run_add (r := ((p + 1 : Nat) : Int)) rfl (F23.ev 27 rfl) rfl (by rw [IntKind.wrap_i64]; omega)) rfl rfl rfl fun a24 F24 => ?_
      refine asS F24 rfl rfl rfl rfl rfl fun a25 F25 => ?_
      refine sqEnd ?_
      clear F22 F23 F24
      refine bkEnd ?_
      refine nx ?_
      refine ⟨_, by omega, o2, al, p + 1, by omega, by omega, rfl, he, ?_, M1⟩
      have e : (s.drop al).take (p + 1 - al) = ((s.drop al).take (p - al)) ++ (s.drop p).take 1 := by
        rw [show p + 1 - al = p - al + 1 by omega, List.take_add, List.drop_drop, show al + (p - al) = p by omega]
      rw [e]
      exact F25.sub ⟨rfl, rfl, rfl, rfl, trivial⟩
    · obtain ⟨g1, g2, g3, g4, g5⟩ := bestS_spec (s := s) (at' := p) (by omega)
      have hms : mostS s p = min 131 (s.length - p) := rfl
      rw [hn, hfr, if_neg h4] at he
      rw [hfr] at g1 g2 g3
      rw [hn] at g5
      have k1 : (UInt8.ofNat (n + 124)).toNat = n + 124 := by rw [UInt8.toNat_ofNat']; omega
      have k2 : (UInt8.ofNat (far % 256)).toNat = far % 256 := by rw [UInt8.toNat_ofNat']; omega
      have k3 : (UInt8.ofNat (far / 256)).toNat = far / 256 := by rw [UInt8.toNat_ofNat']; omega
      have hrl := runS_len _ ((s.drop al).take (p - al)) (Nat.le_refl _)
      rw [hpl] at hrl
      refine wp_seq ?_
      refine wsl ?_
      refine mvS F0 rfl rfl rfl rfl rfl fun a1 F1 => ?_
      refine mvS F1 rfl rfl rfl rfl rfl fun a2 F2 => ?_
      refine sr F2 (run_len rfl (F2.ev 9 rfl) rfl Tryd.underlying9) rfl rfl rfl fun a3 F3 => ?_
      refine sr (v := (.bool true)) F3 (run_lss rfl (F3.ev 8 rfl) (F3.ev 10 rfl) (decide_eq_true (by omega))) rfl rfl rfl fun a4 F4 => ?_
      refine sn ?_
      clear F0 F1 F2 F3
      refine cts (F4.ev 11 rfl) ?_
      refine wp_block ?_
      refine wsl ?_
      refine mvS F4 rfl rfl rfl rfl rfl fun a5 F5 => ?_
      refine mvS F5 rfl rfl rfl rfl rfl fun a6 F6 => ?_
      refine sqC (v := (.tuple #[(.int .i64 (n : Int)), (.int .i64 (far : Int))])) F6 M0 (wantedS rfl) (run_call rfl Tryd.func79 (by kernel_rfl) rfl (mapE2 (F6.ev 13 rfl) (F6.ev 14 rfl))) rfl (by decide) ((by rw [← hn, ← hfr]; exact rbest_any s p w1 hs (by omega))) fun a7 w2 hb2 F7 M1 => ?_
      refine mvS F7 rfl rfl rfl rfl rfl fun a8 F8 => ?_
      refine sr (v := (.int .i64 (n : Int))) F8 (run_ext rfl (F8.ev 12 rfl) rfl) rfl rfl rfl fun a9 F9 => ?_
      refine sr (v := (.int .i64 (far : Int))) F9 (run_ext rfl (F9.ev 12 rfl) rfl) rfl rfl rfl fun a10 F10 => ?_
      refine asS F10 rfl rfl rfl rfl rfl fun a11 F11 => ?_
      refine asS F11 rfl rfl rfl rfl rfl fun a12 F12 => ?_
      refine sn ?_
      clear F4 F5 F6 F7 F8 F9 F10 F11 M0
      refine wsl ?_
      refine mvS F12 rfl rfl rfl rfl rfl fun a13 F13 => ?_
      refine sr (v := (.bool false)) F13 (run_lss rfl (F13.ev 18 rfl) rfl (decide_eq_false (by omega))) rfl rfl rfl fun a14 F14 => ?_
      refine sn ?_
      clear F12 F13
      refine wp_cond_false (F14.ev 19 rfl) ?_
      refine wp_seq ?_
      obtain ⟨KL, hKL⟩ : ∃ KL, KL = [kval (.string ⟨o2.toArray⟩), kval (.string ⟨((s.drop al).take (p - al)).toArray⟩), kval (.string ⟨(runS ((s.drop al).take (p - al))).toArray⟩), kval (.string ⟨(o2 ++ runS ((s.drop al).take (p - al))).toArray⟩), kval (.int .i64 (n : Int)), kval (.int .i64 ((n + 124 : Nat) : Int)), kval (.int .u8 ((UInt8.ofNat (n + 124)).toNat : Int)), kval (.int .i64 (far : Int)), kval (.int .i64 ((far % 256 : Nat) : Int)), kval (.int .u8 ((UInt8.ofNat (far % 256)).toNat : Int)), kval (.int .i64 (far : Int)), kval (.int .i64 ((far / 256 : Nat) : Int)), kval (.int .u8 ((UInt8.ofNat (far / 256)).toNat : Int)), kbytes 5 [(UInt8.ofNat (n + 124)), (UInt8.ofNat (far % 256)), (UInt8.ofNat (far / 256))], kval (.string ⟨List.toArray [(UInt8.ofNat (n + 124)), (UInt8.ofNat (far % 256)), (UInt8.ofNat (far / 256))]⟩), kval (.string ⟨(o2 ++ runS ((s.drop al).take (p - al)) ++ [UInt8.ofNat (n + 124), UInt8.ofNat (far % 256), UInt8.ofNat (far / 256)]).toArray⟩)] := ⟨_, rfl⟩
      have K0 := getK hKL 0
      have K1 := getK hKL 1
      have K2 := getK hKL 2
      have K3 := getK hKL 3
      have K4 := getK hKL 4
      have K5 := getK hKL 5
      have K6 := getK hKL 6
      have K7 := getK hKL 7
      have K8 := getK hKL 8
      have K9 := getK hKL 9
      have K10 := getK hKL 10
      have K11 := getK hKL 11
      have K12 := getK hKL 12
      have K13 := getK hKL 13
      have K14 := getK hKL 14
      have K15 := getK hKL 15
      have HKL : KL.length ≤ 16 := by rw [hKL]; exact Nat.le_refl _
      clear hKL
      refine wp_region_kdTail2 52 16 (by kernel_rfl) (by kernel_rfl) (by kernel_rfl) (by kernel_rfl) F14.size KL HKL ?_ ?_
      · refine ⟨?_, ?_, ?_, ?_, ?_, ?_, ?_, ?_, ?_, ?_, ?_, ?_, ?_, ?_, ?_, ?_, trivial⟩
        · exact asksHY rfl fun a W hS hh hd => giv_run (run_mv rfl (eval_tmp (hh 3 _ rfl (F14.at 3 rfl)))) K0
        · exact asksHY rfl fun a W hS hh hd => giv_run (run_mv rfl (eval_tmp (hh 4 _ rfl (F14.at 4 rfl)))) K1
        · exact asksHY rfl fun a W hS hh hd => giv_call (run_call rfl Tryd.func80 (by kernel_rfl) rfl (mapE1 (eval_tmp (hd.vl 1 30 (by kernel_rfl) K1)))) (rrun_any ((s.drop al).take (p - al)) W (by omega)) K2
        · exact asksHY rfl fun a W hS hh hd => giv_run (run_cat rfl (eval_tmp (hd.vl 0 29 (by kernel_rfl) K0)) (eval_tmp (hd.vl 2 31 (by kernel_rfl) K2)) (by omega)) K3
        · exact asksHY rfl fun a W hS hh hd => giv_run (run_mv rfl (eval_tmp (hh 6 _ rfl (F14.at 6 rfl)))) K4
        · exact asksHY rfl fun a W hS hh hd => giv_run (run_add (r := ((n + 124 : Nat) : Int)) rfl (eval_tmp (hd.vl 4 33 (by kernel_rfl) K4)) rfl (by rw [IntKind.wrap_i64]; omega)) K5
        · exact asksHY rfl fun a W hS hh hd => giv_run (run_cvI (r := ((UInt8.ofNat (n + 124)).toNat : Int)) rfl (eval_tmp (hd.vl 5 34 (by kernel_rfl) K5)) Tryd.underlying3 Tryd.underlying5 (by rw [k1, IntKind.wrap_u8]; omega)) K6
        · exact asksHY rfl fun a W hS hh hd => giv_run (run_mv rfl (eval_tmp (hh 7 _ rfl (F14.at 7 rfl)))) K7
        · exact asksHY rfl fun a W hS hh hd => giv_run (run_rem (r := ((far % 256 : Nat) : Int)) rfl (eval_tmp (hd.vl 7 36 (by kernel_rfl) K7)) rfl (by omega) (by rw [Int.tmod_eq_emod_of_nonneg (by omega)]; try omega)) K8
        · exact asksHY rfl fun a W hS hh hd => giv_run (run_cvI (r := ((UInt8.ofNat (far % 256)).toNat : Int)) rfl (eval_tmp (hd.vl 8 37 (by kernel_rfl) K8)) Tryd.underlying3 Tryd.underlying5 (by rw [k2, IntKind.wrap_u8]; omega)) K9
        · exact asksHY rfl fun a W hS hh hd => giv_run (run_mv rfl (eval_tmp (hh 7 _ rfl (F14.at 7 rfl)))) K10
        · exact asksHY rfl fun a W hS hh hd => giv_run (run_quo (r := ((far / 256 : Nat) : Int)) rfl (eval_tmp (hd.vl 10 39 (by kernel_rfl) K10)) rfl (by omega) (by rw [Int.tdiv_eq_ediv_of_nonneg (by omega), IntKind.wrap_i64]; try omega)) K11
        · exact asksHY rfl fun a W hS hh hd => giv_run (run_cvI (r := ((UInt8.ofNat (far / 256)).toNat : Int)) rfl (eval_tmp (hd.vl 11 40 (by kernel_rfl) K11)) Tryd.underlying3 Tryd.underlying5 (by rw [k3, IntKind.wrap_u8]; omega)) K12
        · exact asksHY rfl fun a W hS hh hd => giv_bytes [(UInt8.ofNat (n + 124)), (UInt8.ofNat (far % 256)), (UInt8.ofNat (far / 256))] 5 (run_bytes3 rfl (eval_tmp (hd.vl 6 35 (by kernel_rfl) K6)) (eval_tmp (hd.vl 9 38 (by kernel_rfl) K9)) (eval_tmp (hd.vl 12 41 (by kernel_rfl) K12))) K13
        · refine asksH_mk fun a W hS hh hd => ⟨wanted_yes rfl, ?_⟩
          obtain ⟨g13, c13, e13, b13⟩ := Dep.bytes hd (j := 13) (s := 42) (by kernel_rfl) K13
          exact giv_run (run_cv rfl (eval_tmp e13) (run_strBlk (cap := c13) (l := [(UInt8.ofNat (n + 124)), (UInt8.ofNat (far % 256)), (UInt8.ofNat (far / 256))]) rfl b13)) K14
        · exact asksHY rfl fun a W hS hh hd => giv_run (run_cat rfl (eval_tmp (hd.vl 3 32 (by kernel_rfl) K3)) (eval_tmp (hd.vl 14 43 (by kernel_rfl) K14)) (by simp; omega)) K15
      · intro a15 w3 hb3 hK
        have e0 := hK.hvl 0 29 rfl (by kernel_rfl) K0
        have e1 := hK.hvl 1 30 rfl (by kernel_rfl) K1
        have e2 := hK.hvl 2 31 rfl (by kernel_rfl) K2
        have e3 := hK.hvl 3 32 rfl (by kernel_rfl) K3
        have e4 := hK.hvl 4 33 rfl (by kernel_rfl) K4
        have e5 := hK.hvl 5 34 rfl (by kernel_rfl) K5
        have e6 := hK.hvl 6 35 rfl (by kernel_rfl) K6
        have e7 := hK.hvl 7 36 rfl (by kernel_rfl) K7
        have e8 := hK.hvl 8 37 rfl (by kernel_rfl) K8
        have e9 := hK.hvl 9 38 rfl (by kernel_rfl) K9
        have e10 := hK.hvl 10 39 rfl (by kernel_rfl) K10
        have e11 := hK.hvl 11 40 rfl (by kernel_rfl) K11
        have e12 := hK.hvl 12 41 rfl (by kernel_rfl) K12
        obtain ⟨v0, e13, hpv0⟩ := hK.hget (i := 13) (s := 42) rfl (by kernel_rfl)
        rw [K13] at hpv0
        have e14 := hK.hvl 14 43 rfl (by kernel_rfl) K14
        have e15 := hK.hvl 15 44 rfl (by kernel_rfl) K15
        have F15 : Fr a15 52 [(0, (.string ⟨s.toArray⟩)), (3, (.string ⟨o2.toArray⟩)), (4, (.string ⟨((s.drop al).take (p - al)).toArray⟩)), (5, (.int .i64 (p : Int))), (6, (.int .i64 (n : Int))), (7, (.int .i64 (far : Int))), (8, (.int .i64 (p : Int))), (9, (.string ⟨s.toArray⟩)), (10, (.int .i64 (s.length : Int))), (11, (.bool true)), (12, (.tuple #[(.int .i64 (n : Int)), (.int .i64 (far : Int))])), (13, (.string ⟨s.toArray⟩)), (14, (.int .i64 (p : Int))), (15, (.tuple #[(.int .i64 (n : Int)), (.int .i64 (far : Int))])), (16, (.int .i64 (n : Int))), (17, (.int .i64 (far : Int))), (18, (.int .i64 (n : Int))), (19, (.bool false)), (44, (.string ⟨(o2 ++ runS ((s.drop al).take (p - al)) ++ [UInt8.ofNat (n + 124), UInt8.ofNat (far % 256), UInt8.ofNat (far / 256)]).toArray⟩))] := (hK.hfr F14 [_, _, _, _, _, _, _, _, _, _, _, _, _, _, _, _] ⟨e0, e1, e2, e3, e4, e5, e6, e7, e8, e9, e10, e11, e12, e13, e14, e15, trivial⟩).sub ⟨rfl, rfl, rfl, rfl, rfl, rfl, rfl, rfl, rfl, rfl, rfl, rfl, rfl, rfl, rfl, rfl, rfl, rfl, rfl, trivial⟩
        have M2 := M1.grow hb3
        clear hK K0 e0 K1 e1 K2 e2 K3 e3 K4 e4 K5 e5 K6 e6 K7 e7 K8 e8 K9 e9 K10 e10 K11 e11 K12 e12 K13 e13 K14 e14 K15 e15 HKL
        simp only [List.drop_succ_cons, List.drop_zero]
        refine asS F15 rfl rfl rfl rfl rfl fun a16 F16 => ?_
        refine sn ?_
        clear F14 F15 M1
        refine wsl ?_
        refine sr (v := (.string ⟨List.toArray []⟩)) F16 (run_as rfl rfl) rfl rfl rfl fun a17 F17 => ?_
        refine sn ?_
        clear F16
        refine wp_region_lit ?_
        refine mvS F17 rfl rfl rfl rfl rfl fun a18 F18 => ?_
        refine mvS F18 rfl rfl rfl rfl rfl fun a19 F19 => ?_
        refine sr F19 (run_add (r := ((p + n : Nat) : Int)) rfl (F19.ev 45 rfl) (F19.ev 46 rfl) (by rw [IntKind.wrap_i64]; omega)) rfl rfl rfl fun a20 F20 => ?_
        refine asS F20 rfl rfl rfl rfl rfl fun a21 F21 => ?_
        refine sqEnd ?_
        clear F17 F18 F19 F20
        refine bkEnd ?_
        refine nx ?_
        refine ⟨_, by omega, o2 ++ runS ((s.drop al).take (p - al)) ++ copyT n far, p + n, p + n, Nat.le_refl _, by omega, rfl, by rw [← he]; simp, ?_, M2⟩
        rw [Nat.sub_self, List.take_zero]
        exact F21.sub ⟨rfl, rfl, rfl, rfl, trivial⟩
  · have hpe : p = s.length := by omega
    rw [packT_end al (by omega)] at he
    have hd : ((s.drop al).take (p - al)) = s.drop al := List.take_of_length_le (by rw [List.length_drop]; omega)
    rw [hd] at F0
    have hrl := runS_len _ (s.drop al) (Nat.le_refl _)
    rw [List.length_drop] at hrl
    refine wp_seq ?_
    refine wsl ?_
    refine mvS F0 rfl rfl rfl rfl rfl fun a1 F1 => ?_
    refine mvS F1 rfl rfl rfl rfl rfl fun a2 F2 => ?_
    refine sr F2 (run_len rfl (F2.ev 9 rfl) rfl Tryd.underlying9) rfl rfl rfl fun a3 F3 => ?_
    refine sr (v := (.bool false)) F3 (run_lss rfl (F3.ev 8 rfl) (F3.ev 10 rfl) (decide_eq_false (by omega))) rfl rfl rfl fun a4 F4 => ?_
    refine sn ?_
    clear F0 F1 F2 F3
    refine wp_cond_false (F4.ev 11 rfl) ?_
    refine wp_exit ?_
    refine nxExit ?_
    refine nxExit ?_
    refine bkHere ?_
    refine nx ?_
    refine wsl ?_
    refine mvS F4 rfl rfl rfl rfl rfl fun a5 F5 => ?_
    refine mvS F5 rfl rfl rfl rfl rfl fun a6 F6 => ?_
    refine sqC (v := (.string ⟨(runS (s.drop al)).toArray⟩)) F6 M0 (wantedS rfl) (run_call rfl Tryd.func80 (by kernel_rfl) rfl (mapE1 (F6.ev 49 rfl))) rfl (by decide) (rrun_any (s.drop al) w1 (by rw [List.length_drop]; omega)) fun a7 w2 hb2 F7 M1 => ?_
    refine sr (v := (.string ⟨(o2 ++ runS (s.drop al)).toArray⟩)) F7 (run_cat rfl (F7.ev 48 rfl) (F7.ev 50 rfl) (by omega)) rfl rfl rfl fun a8 F8 => ?_
    refine asS F8 rfl rfl rfl rfl rfl fun a9 F9 => ?_
    refine sn ?_
    clear F4 F5 F6 F7 F8 M0
    refine wp_ret ?_
    exact ret1 F9 rfl rfl ⟨by rw [← he], M1.below⟩
end Go.Proofs.YtdjjiblijbjobaaDoor
/- The walk of the reference's Unpack. Printed by gen_lz3.py. -/
namespace Go.Proofs.YtdjjiblijbjobaaDoor
open Go.RowKit

theorem unpS_ne {b : List UInt8} {most : Int} (h : b ≠ []) : unpS b most = unpT [] b most := by
  unfold unpS
  rw [if_neg (fun e => h e.2)]
  by_cases hm : most < 0
  · rw [(unp_neg b most h hm).1, show max most 0 = 0 by omega]
  · rw [show max most 0 = most by omega]
theorem unpS_end {b : List UInt8} {most : Int} {r : List UInt8} (h : unpT [] b most = (r, 0)) : unpS b most = if most < 0 then ([], 6) else (r, 0) := by
  by_cases hb : b = []
  · subst hb
    rw [unpT_nil] at h
    unfold unpS
    by_cases hm : most < 0
    · rw [if_pos ⟨hm, rfl⟩, if_pos hm]
    · rw [if_neg (fun e => hm e.1), if_neg hm, unpT_nil]
      exact h
  · rw [unpS_ne hb, h]
    by_cases hm : most < 0
    · exfalso
      have := (unp_neg b most hb hm).2
      rw [h] at this
      exact this rfl
    · rw [if_neg hm]
set_option maxRecDepth 100000 in
set_option maxHeartbeats 1000000 in
theorem runp_any (b : List UInt8) (most : Int) (w : World) (hb : b.length ≤ 2 ^ 32) (hm1 : -9223372036854775808 ≤ most) (hm2 : most ≤ 9223372036854775807) : Calls Tryd.prog 50 #[.string ⟨b.toArray⟩, .int .i64 most] w fun e w' => e = .returned (.tuple #[.string ⟨(unpS b most).1.toArray⟩, .int .i64 (unpS b most).2]) ∧ Below w.heap.size w w' := by
  refine walk_enter Tryd.func50 rfl rfl rfl fun a0 F0 => ?_
  have M0 := Mem.new w
  refine wsl ?_
  refine sr (v := (.string ⟨List.toArray []⟩)) F0 (run_as rfl rfl) rfl rfl rfl fun a1 F1 => ?_
  refine sr (v := (.int .i64 0)) F1 (run_as rfl rfl) rfl rfl rfl fun a2 F2 => ?_
  refine sn ?_
  clear F0 F1
  refine wsl ?_
  refine sr (v := (.string ⟨List.toArray []⟩)) F2 (run_as rfl rfl) rfl rfl rfl fun a3 F3 => ?_
  refine sn ?_
  clear F2
  refine wp_seq ?_
  refine wp_block ?_
  refine wkLoop (fun m a w2 => ∃ o2 b2 : List UInt8, m = b2.length ∧ unpT o2 b2 most = unpT [] b most ∧ b2.length ≤ b.length ∧ o2.length + 131 * b2.length ≤ 131 * b.length ∧ Fr a 89 [(0, .string ⟨b2.toArray⟩), (1, .int .i64 most), (6, .string ⟨o2.toArray⟩)] ∧ Mem w [] w2) b.length ⟨[], b, rfl, rfl, Nat.le_refl _, by simp, F3.sub ⟨rfl, rfl, rfl, trivial⟩, M0⟩ ?_
  rintro m a0 w1 ⟨o2, b2, rfl, he, hbl, hlen, F0, M0⟩
  by_cases hlt : 0 < b2.length
  · have hne : b2 ≠ [] := List.length_pos_iff.1 hlt
    have hnb : b ≠ [] := List.length_pos_iff.1 (by omega)
    rw [unpT_step _ _ hne] at he
    have hbad : ∀ e : Int, e ≠ 0 → (tokS o2 b2 most).1 = e → unpS b most = ([], e) := fun e h1 h2 => by
      rw [unpS_ne hnb, ← he, if_pos (by rw [h2]; exact h1), h2]
    have h0 := (bt b2 0).toNat_lt
    have h1 := (bt b2 1).toNat_lt
    have h2 := (bt b2 2).toNat_lt
    obtain ⟨c, hc⟩ : ∃ c, (bt b2 0).toNat = c := ⟨_, rfl⟩
    obtain ⟨far, hfar⟩ : ∃ far, (bt b2 1).toNat + 256 * (bt b2 2).toNat = far := ⟨_, rfl⟩
    have hc' : (b2.getD 0 0).toNat = c := hc
    have hfar' : (b2.getD 1 0).toNat + 256 * (b2.getD 2 0).toNat = far := hfar
    by_cases k1 : c < 128
    · by_cases k2 : b2.length < c + 2
      · have hr := hbad 4 (by decide) (by unfold tokS; rw [hc', if_pos k1, if_pos k2])
        refine wp_seq ?_
        refine wsl ?_
        refine mvS F0 rfl rfl rfl rfl rfl fun a1 F1 => ?_
        refine sr F1 (run_len rfl (F1.ev 11 rfl) rfl Tryd.underlying9) rfl rfl rfl fun a2 F2 => ?_
        refine sr (v := (.bool true)) F2 (run_gtr rfl (F2.ev 12 rfl) rfl (decide_eq_true (by omega))) rfl rfl rfl fun a3 F3 => ?_
        refine sn ?_
        clear F0 F1 F2
        refine cts (F3.ev 13 rfl) ?_
        refine wp_block ?_
        refine wsl ?_
        refine mvS F3 rfl rfl rfl rfl rfl fun a4 F4 => ?_
        refine sr (v := (.int .u8 ((bt b2 0).toNat : Int))) F4 (run_sAt (n := 0) rfl (F4.ev 14 rfl) rfl Tryd.underlying9 rfl (by omega)) rfl rfl rfl fun a5 F5 => ?_
        refine sr F5 (run_cvI (r := (c : Int)) rfl (F5.ev 15 rfl) Tryd.underlying5 Tryd.underlying3 (by rw [IntKind.wrap_i64]; omega)) rfl rfl rfl fun a6 F6 => ?_
        refine asS F6 rfl rfl rfl rfl rfl fun a7 F7 => ?_
        refine sn ?_
        clear F3 F4 F5 F6
        refine wsl ?_
        refine mvS F7 rfl rfl rfl rfl rfl fun a8 F8 => ?_
        refine sr (v := (.bool true)) F8 (run_lss rfl (F8.ev 17 rfl) rfl (decide_eq_true (by omega))) rfl rfl rfl fun a9 F9 => ?_
        refine sn ?_
        clear F7 F8
        refine wp_cond_true (F9.ev 18 rfl) ?_
        refine wp_seq ?_
        refine wsl ?_
        refine mvS F9 rfl rfl rfl rfl rfl fun a10 F10 => ?_
        refine sr F10 (run_len rfl (F10.ev 19 rfl) rfl Tryd.underlying9) rfl rfl rfl fun a11 F11 => ?_
        refine mvS F11 rfl rfl rfl rfl rfl fun a12 F12 => ?_
        refine sr F12 (run_add (r := ((c + 2 : Nat) : Int)) rfl (F12.ev 21 rfl) rfl (by rw [IntKind.wrap_i64]; omega)) rfl rfl rfl fun a13 F13 => ?_
        refine sr (v := (.bool true)) F13 (run_lss rfl (F13.ev 20 rfl) (F13.ev 22 rfl) (decide_eq_true (by omega))) rfl rfl rfl fun a14 F14 => ?_
        refine sn ?_
        clear F9 F10 F11 F12 F13
        refine wp_cond_true (F14.ev 23 rfl) ?_
        refine wsl ?_
        refine sr (v := (.string ⟨List.toArray []⟩)) F14 (run_as rfl rfl) rfl rfl rfl fun a15 F15 => ?_
        refine sr (v := (.int .i64 4)) F15 (run_as rfl rfl) rfl rfl rfl fun a16 F16 => ?_
        refine sn ?_
        clear F14 F15
        refine wp_ret ?_
        refine nxRet ?_
        refine bkRet ?_
        refine nxRet ?_
        refine bkRet ?_
        refine nxRet ?_
        exact ret2 F16 rfl rfl rfl ⟨by rw [hr], M0.below⟩
      by_cases k3 : most < o2.length + c + 1
      · have hr := hbad 6 (by decide) (by unfold tokS; rw [hc', if_pos k1, if_neg k2, if_pos k3])
        refine wp_seq ?_
        refine wsl ?_
        refine mvS F0 rfl rfl rfl rfl rfl fun a1 F1 => ?_
        refine sr F1 (run_len rfl (F1.ev 11 rfl) rfl Tryd.underlying9) rfl rfl rfl fun a2 F2 => ?_
        refine sr (v := (.bool true)) F2 (run_gtr rfl (F2.ev 12 rfl) rfl (decide_eq_true (by omega))) rfl rfl rfl fun a3 F3 => ?_
        refine sn ?_
        clear F0 F1 F2
        refine cts (F3.ev 13 rfl) ?_
        refine wp_block ?_
        refine wsl ?_
        refine mvS F3 rfl rfl rfl rfl rfl fun a4 F4 => ?_
        refine sr (v := (.int .u8 ((bt b2 0).toNat : Int))) F4 (run_sAt (n := 0) rfl (F4.ev 14 rfl) rfl Tryd.underlying9 rfl (by omega)) rfl rfl rfl fun a5 F5 => ?_
        refine sr F5 (run_cvI (r := (c : Int)) rfl (F5.ev 15 rfl) Tryd.underlying5 Tryd.underlying3 (by rw [IntKind.wrap_i64]; omega)) rfl rfl rfl fun a6 F6 => ?_
        refine asS F6 rfl rfl rfl rfl rfl fun a7 F7 => ?_
        refine sn ?_
        clear F3 F4 F5 F6
        refine wsl ?_
        refine mvS F7 rfl rfl rfl rfl rfl fun a8 F8 => ?_
        refine sr (v := (.bool true)) F8 (run_lss rfl (F8.ev 17 rfl) rfl (decide_eq_true (by omega))) rfl rfl rfl fun a9 F9 => ?_
        refine sn ?_
        clear F7 F8
        refine wp_cond_true (F9.ev 18 rfl) ?_
        refine wp_seq ?_
        refine wsl ?_
        refine mvS F9 rfl rfl rfl rfl rfl fun a10 F10 => ?_
        refine sr F10 (run_len rfl (F10.ev 19 rfl) rfl Tryd.underlying9) rfl rfl rfl fun a11 F11 => ?_
        refine mvS F11 rfl rfl rfl rfl rfl fun a12 F12 => ?_
        refine sr F12 (run_add (r := ((c + 2 : Nat) : Int)) rfl (F12.ev 21 rfl) rfl (by rw [IntKind.wrap_i64]; omega)) rfl rfl rfl fun a13 F13 => ?_
        refine sr (v := (.bool false)) F13 (run_lss rfl (F13.ev 20 rfl) (F13.ev 22 rfl) (decide_eq_false (by omega))) rfl rfl rfl fun a14 F14 => ?_
        refine sn ?_
        clear F9 F10 F11 F12 F13
        refine cfs (F14.ev 23 rfl) ?_
        refine wp_seq ?_
        refine wsl ?_
        refine mvS F14 rfl rfl rfl rfl rfl fun a15 F15 => ?_
        refine sr F15 (run_len rfl (F15.ev 24 rfl) rfl Tryd.underlying9) rfl rfl rfl fun a16 F16 => ?_
        refine mvS F16 rfl rfl rfl rfl rfl fun a17 F17 => ?_
        refine sr F17 (run_add (r := (o2.length : Int) + (c : Int)) rfl (F17.ev 25 rfl) (F17.ev 26 rfl) (by rw [IntKind.wrap_i64]; omega)) rfl rfl rfl fun a18 F18 => ?_
        refine sr F18 (run_add (r := ((o2.length : Int) + (c : Int)) + 1) rfl (F18.ev 27 rfl) rfl (by rw [IntKind.wrap_i64]; omega)) rfl rfl rfl fun a19 F19 => ?_
        refine mvS F19 rfl rfl rfl rfl rfl fun a20 F20 => ?_
        refine sr (v := (.bool true)) F20 (run_gtr rfl (F20.ev 28 rfl) (F20.ev 29 rfl) (decide_eq_true (by omega))) rfl rfl rfl fun a21 F21 => ?_
        refine sn ?_
        clear F14 F15 F16 F17 F18 F19 F20
        refine wp_cond_true (F21.ev 30 rfl) ?_
        refine wsl ?_
        refine sr (v := (.string ⟨List.toArray []⟩)) F21 (run_as rfl rfl) rfl rfl rfl fun a22 F22 => ?_
        refine sr (v := (.int .i64 6)) F22 (run_as rfl rfl) rfl rfl rfl fun a23 F23 => ?_
        refine sn ?_
        clear F21 F22
        refine wp_ret ?_
        refine nxRet ?_
        refine bkRet ?_
        refine nxRet ?_
        refine bkRet ?_
        refine nxRet ?_
        exact ret2 F23 rfl rfl rfl ⟨by rw [hr], M0.below⟩
      have hres : tokS o2 b2 most = (0, o2 ++ (b2.drop 1).take (c + 1), c + 2) := by unfold tokS; rw [hc', if_pos k1, if_neg k2, if_neg k3]
      rw [hres, if_neg (by simp)] at he
      have htl : ((b2.drop 1).take (c + 1)).length = c + 1 := by rw [List.length_take, List.length_drop]; omega
      refine wp_seq ?_
      refine wsl ?_
      refine mvS F0 rfl rfl rfl rfl rfl fun a1 F1 => ?_
      refine sr F1 (run_len rfl (F1.ev 11 rfl) rfl Tryd.underlying9) rfl rfl rfl fun a2 F2 => ?_
      refine sr (v := (.bool true)) F2 (run_gtr rfl (F2.ev 12 rfl) rfl (decide_eq_true (by omega))) rfl rfl rfl fun a3 F3 => ?_
      refine sn ?_
      clear F0 F1 F2
      refine cts (F3.ev 13 rfl) ?_
      refine wp_block ?_
      refine wsl ?_
      refine mvS F3 rfl rfl rfl rfl rfl fun a4 F4 => ?_
      refine sr (v := (.int .u8 ((bt b2 0).toNat : Int))) F4 (run_sAt (n := 0) rfl (F4.ev 14 rfl) rfl Tryd.underlying9 rfl (by omega)) rfl rfl rfl fun a5 F5 => ?_
      refine sr F5 (run_cvI (r := (c : Int)) rfl (F5.ev 15 rfl) Tryd.underlying5 Tryd.underlying3 (by rw [IntKind.wrap_i64]; omega)) rfl rfl rfl fun a6 F6 => ?_
      refine asS F6 rfl rfl rfl rfl rfl fun a7 F7 => ?_
      refine sn ?_
      clear F3 F4 F5 F6
      refine wsl ?_
      refine mvS F7 rfl rfl rfl rfl rfl fun a8 F8 => ?_
      refine sr (v := (.bool true)) F8 (run_lss rfl (F8.ev 17 rfl) rfl (decide_eq_true (by omega))) rfl rfl rfl fun a9 F9 => ?_
      refine sn ?_
      clear F7 F8
      refine wp_cond_true (F9.ev 18 rfl) ?_
      refine wp_seq ?_
      refine wsl ?_
      refine mvS F9 rfl rfl rfl rfl rfl fun a10 F10 => ?_
      refine sr F10 (run_len rfl (F10.ev 19 rfl) rfl Tryd.underlying9) rfl rfl rfl fun a11 F11 => ?_
      refine mvS F11 rfl rfl rfl rfl rfl fun a12 F12 => ?_
      refine sr F12 (run_add (r := ((c + 2 : Nat) : Int)) rfl (F12.ev 21 rfl) rfl (by rw [IntKind.wrap_i64]; omega)) rfl rfl rfl fun a13 F13 => ?_
      refine sr (v := (.bool false)) F13 (run_lss rfl (F13.ev 20 rfl) (F13.ev 22 rfl) (decide_eq_false (by omega))) rfl rfl rfl fun a14 F14 => ?_
      refine sn ?_
      clear F9 F10 F11 F12 F13
      refine cfs (F14.ev 23 rfl) ?_
      refine wp_seq ?_
      refine wsl ?_
      refine mvS F14 rfl rfl rfl rfl rfl fun a15 F15 => ?_
      refine sr F15 (run_len rfl (F15.ev 24 rfl) rfl Tryd.underlying9) rfl rfl rfl fun a16 F16 => ?_
      refine mvS F16 rfl rfl rfl rfl rfl fun a17 F17 => ?_
      refine sr F17 (run_add (r := (o2.length : Int) + (c : Int)) rfl (F17.ev 25 rfl) (F17.ev 26 rfl) (by rw [IntKind.wrap_i64]; omega)) rfl rfl rfl fun a18 F18 => ?_
      refine sr F18 (run_add (r := ((o2.length : Int) + (c : Int)) + 1) rfl (F18.ev 27 rfl) rfl (by rw [IntKind.wrap_i64]; omega)) rfl rfl rfl fun a19 F19 => ?_
      refine mvS F19 rfl rfl rfl rfl rfl fun a20 F20 => ?_
      refine sr (v := (.bool false)) F20 (run_gtr rfl (F20.ev 28 rfl) (F20.ev 29 rfl) (decide_eq_false (by omega))) rfl rfl rfl fun a21 F21 => ?_
      refine sn ?_
      clear F14 F15 F16 F17 F18 F19 F20
      refine cfs (F21.ev 30 rfl) ?_
      refine wsl ?_
      refine mvS F21 rfl rfl rfl rfl rfl fun a22 F22 => ?_
      refine mvS F22 rfl rfl rfl rfl rfl fun a23 F23 => ?_
      refine mvS F23 rfl rfl rfl rfl rfl fun a24 F24 => ?_
      refine sr F24 (run_add (r := ((c + 2 : Nat) : Int)) rfl (F24.ev 33 rfl) rfl (by rw [IntKind.wrap_i64]; omega)) rfl rfl rfl fun a25 F25 => ?_
      refine sr (v := (.string ⟨((b2.drop 1).take (c + 1)).toArray⟩)) F25 (run_sMidE (m := 1) (m2 := (c + 2)) (by rw [show c + 2 - 1 = c + 1 by omega]) rfl (F25.ev 32 rfl) rfl (F25.ev 34 rfl) Tryd.underlying9 (by omega) (by omega) (by omega) (by omega)) rfl rfl rfl fun a26 F26 => ?_
      refine sr (v := (.string ⟨(o2 ++ ((b2.drop 1).take (c + 1))).toArray⟩)) F26 (run_cat rfl (F26.ev 31 rfl) (F26.ev 35 rfl) (by omega)) rfl rfl rfl fun a27 F27 => ?_
      refine asS F27 rfl rfl rfl rfl rfl fun a28 F28 => ?_
      refine sn ?_
      clear F21 F22 F23 F24 F25 F26 F27
      refine wp_region_lit ?_
      refine mvS F28 rfl rfl rfl rfl rfl fun a29 F29 => ?_
      refine mvS F29 rfl rfl rfl rfl rfl fun a30 F30 => ?_
      refine sr F30 (run_add (r := ((c + 2 : Nat) : Int)) rfl (F30.ev 38 rfl) rfl (by rw [IntKind.wrap_i64]; omega)) rfl rfl rfl fun a31 F31 => ?_
      refine sr (v := (.string ⟨(b2.drop (c + 2)).toArray⟩)) F31 (run_sFrom (m := (c + 2)) rfl (F31.ev 37 rfl) (F31.ev 39 rfl) Tryd.underlying9 (by omega) (by omega)) rfl rfl rfl fun a32 F32 => ?_
      refine asS F32 rfl rfl rfl rfl rfl fun a33 F33 => ?_
      refine sqEnd ?_
      clear F28 F29 F30 F31 F32
      refine bkEnd ?_
      refine nx ?_
      exact ⟨_, by rw [List.length_drop]; omega, _, b2.drop (c + 2), rfl, he, by rw [List.length_drop]; omega, by rw [List.length_drop, List.length_append, htl]; omega, F33.sub ⟨rfl, rfl, rfl, trivial⟩, M0⟩
    · by_cases k2 : b2.length < 3
      · have hr := hbad 4 (by decide) (by unfold tokS; rw [hc', if_neg k1, if_pos k2])
        refine wp_seq ?_
        refine wsl ?_
        refine mvS F0 rfl rfl rfl rfl rfl fun a1 F1 => ?_
        refine sr F1 (run_len rfl (F1.ev 11 rfl) rfl Tryd.underlying9) rfl rfl rfl fun a2 F2 => ?_
        refine sr (v := (.bool true)) F2 (run_gtr rfl (F2.ev 12 rfl) rfl (decide_eq_true (by omega))) rfl rfl rfl fun a3 F3 => ?_
        refine sn ?_
        clear F0 F1 F2
        refine cts (F3.ev 13 rfl) ?_
        refine wp_block ?_
        refine wsl ?_
        refine mvS F3 rfl rfl rfl rfl rfl fun a4 F4 => ?_
        refine sr (v := (.int .u8 ((bt b2 0).toNat : Int))) F4 (run_sAt (n := 0) rfl (F4.ev 14 rfl) rfl Tryd.underlying9 rfl (by omega)) rfl rfl rfl fun a5 F5 => ?_
        refine sr F5 (run_cvI (r := (c : Int)) rfl (F5.ev 15 rfl) Tryd.underlying5 Tryd.underlying3 (by rw [IntKind.wrap_i64]; omega)) rfl rfl rfl fun a6 F6 => ?_
        refine asS F6 rfl rfl rfl rfl rfl fun a7 F7 => ?_
        refine sn ?_
        clear F3 F4 F5 F6
        refine wsl ?_
        refine mvS F7 rfl rfl rfl rfl rfl fun a8 F8 => ?_
        refine sr (v := (.bool false)) F8 (run_lss rfl (F8.ev 17 rfl) rfl (decide_eq_false (by omega))) rfl rfl rfl fun a9 F9 => ?_
        refine sn ?_
        clear F7 F8
        refine wp_cond_false (F9.ev 18 rfl) ?_
        refine wp_seq ?_
        refine wsl ?_
        refine mvS F9 rfl rfl rfl rfl rfl fun a10 F10 => ?_
        refine sr F10 (run_len rfl (F10.ev 41 rfl) rfl Tryd.underlying9) rfl rfl rfl fun a11 F11 => ?_
        refine sr (v := (.bool true)) F11 (run_lss rfl (F11.ev 42 rfl) rfl (decide_eq_true (by omega))) rfl rfl rfl fun a12 F12 => ?_
        refine sn ?_
        clear F9 F10 F11
        refine wp_cond_true (F12.ev 43 rfl) ?_
        refine wsl ?_
        refine sr (v := (.string ⟨List.toArray []⟩)) F12 (run_as rfl rfl) rfl rfl rfl fun a13 F13 => ?_
        refine sr (v := (.int .i64 4)) F13 (run_as rfl rfl) rfl rfl rfl fun a14 F14 => ?_
        refine sn ?_
        clear F12 F13
        refine wp_ret ?_
        refine nxRet ?_
        refine bkRet ?_
        refine nxRet ?_
        refine bkRet ?_
        refine nxRet ?_
        exact ret2 F14 rfl rfl rfl ⟨by rw [hr], M0.below⟩
      by_cases k3 : far = 0
      · have hr := hbad 3 (by decide) (by unfold tokS; rw [hc', if_neg k1, if_neg k2, hfar', if_pos (.inl k3)])
        refine wp_seq ?_
        refine wsl ?_
        refine mvS F0 rfl rfl rfl rfl rfl fun a1 F1 => ?_
        refine sr F1 (run_len rfl (F1.ev 11 rfl) rfl Tryd.underlying9) rfl rfl rfl fun a2 F2 => ?_
        refine sr (v := (.bool true)) F2 (run_gtr rfl (F2.ev 12 rfl) rfl (decide_eq_true (by omega))) rfl rfl rfl fun a3 F3 => ?_
        refine sn ?_
        clear F0 F1 F2
        refine cts (F3.ev 13 rfl) ?_
        refine wp_block ?_
        refine wsl ?_
        refine mvS F3 rfl rfl rfl rfl rfl fun a4 F4 => ?_
        refine sr (v := (.int .u8 ((bt b2 0).toNat : Int))) F4 (run_sAt (n := 0) rfl (F4.ev 14 rfl) rfl Tryd.underlying9 rfl (by omega)) rfl rfl rfl fun a5 F5 => ?_
        refine sr F5 (run_cvI (r := (c : Int)) rfl (F5.ev 15 rfl) Tryd.underlying5 Tryd.underlying3 (by rw [IntKind.wrap_i64]; omega)) rfl rfl rfl fun a6 F6 => ?_
        refine asS F6 rfl rfl rfl rfl rfl fun a7 F7 => ?_
        refine sn ?_
        clear F3 F4 F5 F6
        refine wsl ?_
        refine mvS F7 rfl rfl rfl rfl rfl fun a8 F8 => ?_
        refine sr (v := (.bool false)) F8 (run_lss rfl (F8.ev 17 rfl) rfl (decide_eq_false (by omega))) rfl rfl rfl fun a9 F9 => ?_
        refine sn ?_
        clear F7 F8
        refine wp_cond_false (F9.ev 18 rfl) ?_
        refine wp_seq ?_
        refine wsl ?_
        refine mvS F9 rfl rfl rfl rfl rfl fun a10 F10 => ?_
        refine sr F10 (run_len rfl (F10.ev 41 rfl) rfl Tryd.underlying9) rfl rfl rfl fun a11 F11 => ?_
        refine sr (v := (.bool false)) F11 (run_lss rfl (F11.ev 42 rfl) rfl (decide_eq_false (by omega))) rfl rfl rfl fun a12 F12 => ?_
        refine sn ?_
        clear F9 F10 F11
        refine cfs (F12.ev 43 rfl) ?_
        refine wp_seq ?_
        obtain ⟨KL, hKL⟩ : ∃ KL, KL = [kval (.string ⟨b2.toArray⟩), kval (.int .u8 ((bt b2 1).toNat : Int)), kval (.int .i64 ((bt b2 1).toNat : Int)), kval (.string ⟨b2.toArray⟩), kval (.int .u8 ((bt b2 2).toNat : Int)), kval (.int .i64 ((bt b2 2).toNat : Int)), kval (.int .i64 ((256 * (bt b2 2).toNat : Nat) : Int)), kval (.int .i64 (far : Int)), kval (.int .i64 (far : Int))] := ⟨_, rfl⟩
        have K0 := getK hKL 0
        have K1 := getK hKL 1
        have K2 := getK hKL 2
        have K3 := getK hKL 3
        have K4 := getK hKL 4
        have K5 := getK hKL 5
        have K6 := getK hKL 6
        have K7 := getK hKL 7
        have K8 := getK hKL 8
        clear hKL
        refine wp_region_kd 89 (by kernel_rfl) (by kernel_rfl) (by kernel_rfl) F12.size KL ?_ ?_
        · refine ⟨?_, ?_, ?_, ?_, ?_, ?_, ?_, ?_, ?_, trivial⟩
          · exact asksY rfl fun a W hS hh hd => giv_run (run_mv rfl (eval_tmp (hh 0 _ rfl (F12.at 0 rfl)))) K0
          · exact asksY rfl fun a W hS hh hd => giv_run (run_sAt (n := 1) rfl (eval_tmp (hd.vl 0 44 (by kernel_rfl) K0)) rfl Tryd.underlying9 rfl (by omega)) K1
          · exact asksY rfl fun a W hS hh hd => giv_run (run_cvI (r := ((bt b2 1).toNat : Int)) rfl (eval_tmp (hd.vl 1 45 (by kernel_rfl) K1)) Tryd.underlying5 Tryd.underlying3 (by rw [IntKind.wrap_i64]; omega)) K2
          · exact asksY rfl fun a W hS hh hd => giv_run (run_mv rfl (eval_tmp (hh 0 _ rfl (F12.at 0 rfl)))) K3
          · exact asksY rfl fun a W hS hh hd => giv_run (run_sAt (n := 2) rfl (eval_tmp (hd.vl 3 47 (by kernel_rfl) K3)) rfl Tryd.underlying9 rfl (by omega)) K4
          · exact asksY rfl fun a W hS hh hd => giv_run (run_cvI (r := ((bt b2 2).toNat : Int)) rfl (eval_tmp (hd.vl 4 48 (by kernel_rfl) K4)) Tryd.underlying5 Tryd.underlying3 (by rw [IntKind.wrap_i64]; omega)) K5
          · exact asksY rfl fun a W hS hh hd => giv_run (run_mul (r := ((256 * (bt b2 2).toNat : Nat) : Int)) rfl rfl (eval_tmp (hd.vl 5 49 (by kernel_rfl) K5)) (by rw [IntKind.wrap_i64]; omega)) K6
          · exact asksY rfl fun a W hS hh hd => giv_run (run_add (r := (far : Int)) rfl (eval_tmp (hd.vl 2 46 (by kernel_rfl) K2)) (eval_tmp (hd.vl 6 50 (by kernel_rfl) K6)) (by rw [IntKind.wrap_i64]; omega)) K7
          · exact asksY rfl fun a W hS hh hd => giv_run (run_as rfl (eval_tmp (hd.vl 7 51 (by kernel_rfl) K7))) K8
        · intro a13 w2 hb2 hK
          have e0 := hK.vl 0 44 (by kernel_rfl) K0
          have e1 := hK.vl 1 45 (by kernel_rfl) K1
          have e2 := hK.vl 2 46 (by kernel_rfl) K2
          have e3 := hK.vl 3 47 (by kernel_rfl) K3
          have e4 := hK.vl 4 48 (by kernel_rfl) K4
          have e5 := hK.vl 5 49 (by kernel_rfl) K5
          have e6 := hK.vl 6 50 (by kernel_rfl) K6
          have e7 := hK.vl 7 51 (by kernel_rfl) K7
          have e8 := hK.vl 8 8 (by kernel_rfl) K8
          have F13 : Fr a13 89 [(0, (.string ⟨b2.toArray⟩)), (1, (.int .i64 most)), (6, (.string ⟨o2.toArray⟩)), (7, (.int .i64 (c : Int))), (8, (.int .i64 (far : Int))), (11, (.string ⟨b2.toArray⟩)), (12, (.int .i64 (b2.length : Int))), (13, (.bool true)), (14, (.string ⟨b2.toArray⟩)), (15, (.int .u8 ((bt b2 0).toNat : Int))), (16, (.int .i64 (c : Int))), (17, (.int .i64 (c : Int))), (18, (.bool false)), (41, (.string ⟨b2.toArray⟩)), (42, (.int .i64 (b2.length : Int))), (43, (.bool false))] := (hK.fr F12 [_, _, _, _, _, _, _, _, _] ⟨e0, e1, e2, e3, e4, e5, e6, e7, e8, trivial⟩).sub ⟨rfl, rfl, rfl, rfl, rfl, rfl, rfl, rfl, rfl, rfl, rfl, rfl, rfl, rfl, rfl, rfl, trivial⟩
          have M1 := M0.grow hb2
          clear hK K0 e0 K1 e1 K2 e2 K3 e3 K4 e4 K5 e5 K6 e6 K7 e7 K8 e8
          clear F12 M0
          refine nx ?_
          refine wp_seq ?_
          refine wsl ?_
          refine mvS F13 rfl rfl rfl rfl rfl fun a14 F14 => ?_
          refine sr (v := (.bool true)) F14 (run_eqi rfl (F14.ev 52 rfl) rfl (beq_iff_eq.2 (by omega))) rfl rfl rfl fun a15 F15 => ?_
          refine mvS F15 rfl rfl rfl rfl rfl fun a16 F16 => ?_
          refine sqSkip F16 (unwantedG F16 rfl rfl rfl rfl rfl) rfl (by decide) fun a17 F17 => ?_
          refine sqSkip F17 (unwantedG F17 rfl rfl rfl rfl rfl) rfl (by decide) fun a18 F18 => ?_
          refine sqSkip F18 (unwantedG F18 rfl rfl rfl rfl rfl) rfl (by decide) fun a19 F19 => ?_
          refine sqSkip F19 (unwantedG F19 rfl rfl rfl rfl rfl) rfl (by decide) fun a20 F20 => ?_
          refine sr (v := (.bool true)) F20 (run_pick rfl (F20.ev 54 rfl) rfl (F20.ev 58 rfl)) rfl rfl rfl fun a21 F21 => ?_
          refine sn ?_
          clear F13 F14 F15 F16 F17 F18 F19 F20
          refine wp_cond_true (F21.ev 59 rfl) ?_
          refine wsl ?_
          refine sr (v := (.string ⟨List.toArray []⟩)) F21 (run_as rfl rfl) rfl rfl rfl fun a22 F22 => ?_
          refine sr (v := (.int .i64 3)) F22 (run_as rfl rfl) rfl rfl rfl fun a23 F23 => ?_
          refine sn ?_
          clear F21 F22
          refine wp_ret ?_
          refine nxRet ?_
          refine bkRet ?_
          refine nxRet ?_
          refine bkRet ?_
          refine nxRet ?_
          exact ret2 F23 rfl rfl rfl ⟨by rw [hr], M1.below⟩
      by_cases k4 : o2.length < far
      · have hr := hbad 3 (by decide) (by unfold tokS; rw [hc', if_neg k1, if_neg k2, hfar', if_pos (.inr k4)])
        refine wp_seq ?_
        refine wsl ?_
        refine mvS F0 rfl rfl rfl rfl rfl fun a1 F1 => ?_
        refine sr F1 (run_len rfl (F1.ev 11 rfl) rfl Tryd.underlying9) rfl rfl rfl fun a2 F2 => ?_
        refine sr (v := (.bool true)) F2 (run_gtr rfl (F2.ev 12 rfl) rfl (decide_eq_true (by omega))) rfl rfl rfl fun a3 F3 => ?_
        refine sn ?_
        clear F0 F1 F2
        refine cts (F3.ev 13 rfl) ?_
        refine wp_block ?_
        refine wsl ?_
        refine mvS F3 rfl rfl rfl rfl rfl fun a4 F4 => ?_
        refine sr (v := (.int .u8 ((bt b2 0).toNat : Int))) F4 (run_sAt (n := 0) rfl (F4.ev 14 rfl) rfl Tryd.underlying9 rfl (by omega)) rfl rfl rfl fun a5 F5 => ?_
        refine sr F5 (run_cvI (r := (c : Int)) rfl (F5.ev 15 rfl) Tryd.underlying5 Tryd.underlying3 (by rw [IntKind.wrap_i64]; omega)) rfl rfl rfl fun a6 F6 => ?_
        refine asS F6 rfl rfl rfl rfl rfl fun a7 F7 => ?_
        refine sn ?_
        clear F3 F4 F5 F6
        refine wsl ?_
        refine mvS F7 rfl rfl rfl rfl rfl fun a8 F8 => ?_
        refine sr (v := (.bool false)) F8 (run_lss rfl (F8.ev 17 rfl) rfl (decide_eq_false (by omega))) rfl rfl rfl fun a9 F9 => ?_
        refine sn ?_
        clear F7 F8
        refine wp_cond_false (F9.ev 18 rfl) ?_
        refine wp_seq ?_
        refine wsl ?_
        refine mvS F9 rfl rfl rfl rfl rfl fun a10 F10 => ?_
        refine sr F10 (run_len rfl (F10.ev 41 rfl) rfl Tryd.underlying9) rfl rfl rfl fun a11 F11 => ?_
        refine sr (v := (.bool false)) F11 (run_lss rfl (F11.ev 42 rfl) rfl (decide_eq_false (by omega))) rfl rfl rfl fun a12 F12 => ?_
        refine sn ?_
        clear F9 F10 F11
        refine cfs (F12.ev 43 rfl) ?_
        refine wp_seq ?_
        obtain ⟨KL, hKL⟩ : ∃ KL, KL = [kval (.string ⟨b2.toArray⟩), kval (.int .u8 ((bt b2 1).toNat : Int)), kval (.int .i64 ((bt b2 1).toNat : Int)), kval (.string ⟨b2.toArray⟩), kval (.int .u8 ((bt b2 2).toNat : Int)), kval (.int .i64 ((bt b2 2).toNat : Int)), kval (.int .i64 ((256 * (bt b2 2).toNat : Nat) : Int)), kval (.int .i64 (far : Int)), kval (.int .i64 (far : Int))] := ⟨_, rfl⟩
        have K0 := getK hKL 0
        have K1 := getK hKL 1
        have K2 := getK hKL 2
        have K3 := getK hKL 3
        have K4 := getK hKL 4
        have K5 := getK hKL 5
        have K6 := getK hKL 6
        have K7 := getK hKL 7
        have K8 := getK hKL 8
        clear hKL
        refine wp_region_kd 89 (by kernel_rfl) (by kernel_rfl) (by kernel_rfl) F12.size KL ?_ ?_
        · refine ⟨?_, ?_, ?_, ?_, ?_, ?_, ?_, ?_, ?_, trivial⟩
          · exact asksY rfl fun a W hS hh hd => giv_run (run_mv rfl (eval_tmp (hh 0 _ rfl (F12.at 0 rfl)))) K0
          · exact asksY rfl fun a W hS hh hd => giv_run (run_sAt (n := 1) rfl (eval_tmp (hd.vl 0 44 (by kernel_rfl) K0)) rfl Tryd.underlying9 rfl (by omega)) K1
          · exact asksY rfl fun a W hS hh hd => giv_run (run_cvI (r := ((bt b2 1).toNat : Int)) rfl (eval_tmp (hd.vl 1 45 (by kernel_rfl) K1)) Tryd.underlying5 Tryd.underlying3 (by rw [IntKind.wrap_i64]; omega)) K2
          · exact asksY rfl fun a W hS hh hd => giv_run (run_mv rfl (eval_tmp (hh 0 _ rfl (F12.at 0 rfl)))) K3
          · exact asksY rfl fun a W hS hh hd => giv_run (run_sAt (n := 2) rfl (eval_tmp (hd.vl 3 47 (by kernel_rfl) K3)) rfl Tryd.underlying9 rfl (by omega)) K4
          · exact asksY rfl fun a W hS hh hd => giv_run (run_cvI (r := ((bt b2 2).toNat : Int)) rfl (eval_tmp (hd.vl 4 48 (by kernel_rfl) K4)) Tryd.underlying5 Tryd.underlying3 (by rw [IntKind.wrap_i64]; omega)) K5
          · exact asksY rfl fun a W hS hh hd => giv_run (run_mul (r := ((256 * (bt b2 2).toNat : Nat) : Int)) rfl rfl (eval_tmp (hd.vl 5 49 (by kernel_rfl) K5)) (by rw [IntKind.wrap_i64]; omega)) K6
          · exact asksY rfl fun a W hS hh hd => giv_run (run_add (r := (far : Int)) rfl (eval_tmp (hd.vl 2 46 (by kernel_rfl) K2)) (eval_tmp (hd.vl 6 50 (by kernel_rfl) K6)) (by rw [IntKind.wrap_i64]; omega)) K7
          · exact asksY rfl fun a W hS hh hd => giv_run (run_as rfl (eval_tmp (hd.vl 7 51 (by kernel_rfl) K7))) K8
        · intro a13 w2 hb2 hK
          have e0 := hK.vl 0 44 (by kernel_rfl) K0
          have e1 := hK.vl 1 45 (by kernel_rfl) K1
          have e2 := hK.vl 2 46 (by kernel_rfl) K2
          have e3 := hK.vl 3 47 (by kernel_rfl) K3
          have e4 := hK.vl 4 48 (by kernel_rfl) K4
          have e5 := hK.vl 5 49 (by kernel_rfl) K5
          have e6 := hK.vl 6 50 (by kernel_rfl) K6
          have e7 := hK.vl 7 51 (by kernel_rfl) K7
          have e8 := hK.vl 8 8 (by kernel_rfl) K8
          have F13 : Fr a13 89 [(0, (.string ⟨b2.toArray⟩)), (1, (.int .i64 most)), (6, (.string ⟨o2.toArray⟩)), (7, (.int .i64 (c : Int))), (8, (.int .i64 (far : Int))), (11, (.string ⟨b2.toArray⟩)), (12, (.int .i64 (b2.length : Int))), (13, (.bool true)), (14, (.string ⟨b2.toArray⟩)), (15, (.int .u8 ((bt b2 0).toNat : Int))), (16, (.int .i64 (c : Int))), (17, (.int .i64 (c : Int))), (18, (.bool false)), (41, (.string ⟨b2.toArray⟩)), (42, (.int .i64 (b2.length : Int))), (43, (.bool false))] := (hK.fr F12 [_, _, _, _, _, _, _, _, _] ⟨e0, e1, e2, e3, e4, e5, e6, e7, e8, trivial⟩).sub ⟨rfl, rfl, rfl, rfl, rfl, rfl, rfl, rfl, rfl, rfl, rfl, rfl, rfl, rfl, rfl, rfl, trivial⟩
          have M1 := M0.grow hb2
          clear hK K0 e0 K1 e1 K2 e2 K3 e3 K4 e4 K5 e5 K6 e6 K7 e7 K8 e8
          clear F12 M0
          refine nx ?_
          refine wp_seq ?_
          refine wsl ?_
          refine mvS F13 rfl rfl rfl rfl rfl fun a14 F14 => ?_
          refine sr (v := (.bool false)) F14 (run_eqi rfl (F14.ev 52 rfl) rfl (beq_eq_false_iff_ne.2 (by omega))) rfl rfl rfl fun a15 F15 => ?_
          refine mvS F15 rfl rfl rfl rfl rfl fun a16 F16 => ?_
          refine sq (v := (.int .i64 (far : Int))) F16 (wantedG F16 rfl rfl rfl rfl rfl) (run_mv rfl (F16.ev 8 rfl)) rfl (by decide) fun a17 F17 => ?_
          refine sq (v := (.string ⟨o2.toArray⟩)) F17 (wantedG F17 rfl rfl rfl rfl rfl) (run_mv rfl (F17.ev 6 rfl)) rfl (by decide) fun a18 F18 => ?_
          refine sq (v := (.int .i64 (o2.length : Int))) F18 (wantedG F18 rfl rfl rfl rfl rfl) (run_len rfl (F18.ev 56 rfl) rfl Tryd.underlying9) rfl (by decide) fun a19 F19 => ?_
          refine sq (v := (.bool true)) F19 (wantedG F19 rfl rfl rfl rfl rfl) (run_gtr rfl (F19.ev 55 rfl) (F19.ev 57 rfl) (decide_eq_true (by omega))) rfl (by decide) fun a20 F20 => ?_
          refine sr (v := (.bool true)) F20 (run_pick rfl (F20.ev 54 rfl) rfl (F20.ev 58 rfl)) rfl rfl rfl fun a21 F21 => ?_
          refine sn ?_
          clear F13 F14 F15 F16 F17 F18 F19 F20
          refine wp_cond_true (F21.ev 59 rfl) ?_
          refine wsl ?_
          refine sr (v := (.string ⟨List.toArray []⟩)) F21 (run_as rfl rfl) rfl rfl rfl fun a22 F22 => ?_
          refine sr (v := (.int .i64 3)) F22 (run_as rfl rfl) rfl rfl rfl fun a23 F23 => ?_
          refine sn ?_
          clear F21 F22
          refine wp_ret ?_
          refine nxRet ?_
          refine bkRet ?_
          refine nxRet ?_
          refine bkRet ?_
          refine nxRet ?_
          exact ret2 F23 rfl rfl rfl ⟨by rw [hr], M1.below⟩
      have k5 : ¬ (far = 0 ∨ o2.length < far) := by omega
      by_cases k6 : most < o2.length + (c - 124 : Nat)
      · have hr := hbad 6 (by decide) (by unfold tokS; rw [hc', if_neg k1, if_neg k2, hfar', if_neg k5, if_pos k6])
        refine wp_seq ?_
        refine wsl ?_
        refine mvS F0 rfl rfl rfl rfl rfl fun a1 F1 => ?_
        refine sr F1 (run_len rfl (F1.ev 11 rfl) rfl Tryd.underlying9) rfl rfl rfl fun a2 F2 => ?_
        refine sr (v := (.bool true)) F2 (run_gtr rfl (F2.ev 12 rfl) rfl (decide_eq_true (by omega))) rfl rfl rfl fun a3 F3 => ?_
        refine sn ?_
        clear F0 F1 F2
        refine cts (F3.ev 13 rfl) ?_
        refine wp_block ?_
        refine wsl ?_
        refine mvS F3 rfl rfl rfl rfl rfl fun a4 F4 => ?_
        refine sr (v := (.int .u8 ((bt b2 0).toNat : Int))) F4 (run_sAt (n := 0) rfl (F4.ev 14 rfl) rfl Tryd.underlying9 rfl (by omega)) rfl rfl rfl fun a5 F5 => ?_
        refine sr F5 (run_cvI (r := (c : Int)) rfl (F5.ev 15 rfl) Tryd.underlying5 Tryd.underlying3 (by rw [IntKind.wrap_i64]; omega)) rfl rfl rfl fun a6 F6 => ?_
        refine asS F6 rfl rfl rfl rfl rfl fun a7 F7 => ?_
        refine sn ?_
        clear F3 F4 F5 F6
        refine wsl ?_
        refine mvS F7 rfl rfl rfl rfl rfl fun a8 F8 => ?_
        refine sr (v := (.bool false)) F8 (run_lss rfl (F8.ev 17 rfl) rfl (decide_eq_false (by omega))) rfl rfl rfl fun a9 F9 => ?_
        refine sn ?_
        clear F7 F8
        refine wp_cond_false (F9.ev 18 rfl) ?_
        refine wp_seq ?_
        refine wsl ?_
        refine mvS F9 rfl rfl rfl rfl rfl fun a10 F10 => ?_
        refine sr F10 (run_len rfl (F10.ev 41 rfl) rfl Tryd.underlying9) rfl rfl rfl fun a11 F11 => ?_
        refine sr (v := (.bool false)) F11 (run_lss rfl (F11.ev 42 rfl) rfl (decide_eq_false (by omega))) rfl rfl rfl fun a12 F12 => ?_
        refine sn ?_
        clear F9 F10 F11
        refine cfs (F12.ev 43 rfl) ?_
        refine wp_seq ?_
        obtain ⟨KL, hKL⟩ : ∃ KL, KL = [kval (.string ⟨b2.toArray⟩), kval (.int .u8 ((bt b2 1).toNat : Int)), kval (.int .i64 ((bt b2 1).toNat : Int)), kval (.string ⟨b2.toArray⟩), kval (.int .u8 ((bt b2 2).toNat : Int)), kval (.int .i64 ((bt b2 2).toNat : Int)), kval (.int .i64 ((256 * (bt b2 2).toNat : Nat) : Int)), kval (.int .i64 (far : Int)), kval (.int .i64 (far : Int))] := ⟨_, rfl⟩
        have K0 := getK hKL 0
        have K1 := getK hKL 1
        have K2 := getK hKL 2
        have K3 := getK hKL 3
        have K4 := getK hKL 4
        have K5 := getK hKL 5
        have K6 := getK hKL 6
        have K7 := getK hKL 7
        have K8 := getK hKL 8
        clear hKL
        refine wp_region_kd 89 (by kernel_rfl) (by kernel_rfl) (by kernel_rfl) F12.size KL ?_ ?_
        · refine ⟨?_, ?_, ?_, ?_, ?_, ?_, ?_, ?_, ?_, trivial⟩
          · exact asksY rfl fun a W hS hh hd => giv_run (run_mv rfl (eval_tmp (hh 0 _ rfl (F12.at 0 rfl)))) K0
          · exact asksY rfl fun a W hS hh hd => giv_run (run_sAt (n := 1) rfl (eval_tmp (hd.vl 0 44 (by kernel_rfl) K0)) rfl Tryd.underlying9 rfl (by omega)) K1
          · exact asksY rfl fun a W hS hh hd => giv_run (run_cvI (r := ((bt b2 1).toNat : Int)) rfl (eval_tmp (hd.vl 1 45 (by kernel_rfl) K1)) Tryd.underlying5 Tryd.underlying3 (by rw [IntKind.wrap_i64]; omega)) K2
          · exact asksY rfl fun a W hS hh hd => giv_run (run_mv rfl (eval_tmp (hh 0 _ rfl (F12.at 0 rfl)))) K3
          · exact asksY rfl fun a W hS hh hd => giv_run (run_sAt (n := 2) rfl (eval_tmp (hd.vl 3 47 (by kernel_rfl) K3)) rfl Tryd.underlying9 rfl (by omega)) K4
          · exact asksY rfl fun a W hS hh hd => giv_run (run_cvI (r := ((bt b2 2).toNat : Int)) rfl (eval_tmp (hd.vl 4 48 (by kernel_rfl) K4)) Tryd.underlying5 Tryd.underlying3 (by rw [IntKind.wrap_i64]; omega)) K5
          · exact asksY rfl fun a W hS hh hd => giv_run (run_mul (r := ((256 * (bt b2 2).toNat : Nat) : Int)) rfl rfl (eval_tmp (hd.vl 5 49 (by kernel_rfl) K5)) (by rw [IntKind.wrap_i64]; omega)) K6
          · exact asksY rfl fun a W hS hh hd => giv_run (run_add (r := (far : Int)) rfl (eval_tmp (hd.vl 2 46 (by kernel_rfl) K2)) (eval_tmp (hd.vl 6 50 (by kernel_rfl) K6)) (by rw [IntKind.wrap_i64]; omega)) K7
          · exact asksY rfl fun a W hS hh hd => giv_run (run_as rfl (eval_tmp (hd.vl 7 51 (by kernel_rfl) K7))) K8
        · intro a13 w2 hb2 hK
          have e0 := hK.vl 0 44 (by kernel_rfl) K0
          have e1 := hK.vl 1 45 (by kernel_rfl) K1
          have e2 := hK.vl 2 46 (by kernel_rfl) K2
          have e3 := hK.vl 3 47 (by kernel_rfl) K3
          have e4 := hK.vl 4 48 (by kernel_rfl) K4
          have e5 := hK.vl 5 49 (by kernel_rfl) K5
          have e6 := hK.vl 6 50 (by kernel_rfl) K6
          have e7 := hK.vl 7 51 (by kernel_rfl) K7
          have e8 := hK.vl 8 8 (by kernel_rfl) K8
          have F13 : Fr a13 89 [(0, (.string ⟨b2.toArray⟩)), (1, (.int .i64 most)), (6, (.string ⟨o2.toArray⟩)), (7, (.int .i64 (c : Int))), (8, (.int .i64 (far : Int))), (11, (.string ⟨b2.toArray⟩)), (12, (.int .i64 (b2.length : Int))), (13, (.bool true)), (14, (.string ⟨b2.toArray⟩)), (15, (.int .u8 ((bt b2 0).toNat : Int))), (16, (.int .i64 (c : Int))), (17, (.int .i64 (c : Int))), (18, (.bool false)), (41, (.string ⟨b2.toArray⟩)), (42, (.int .i64 (b2.length : Int))), (43, (.bool false))] := (hK.fr F12 [_, _, _, _, _, _, _, _, _] ⟨e0, e1, e2, e3, e4, e5, e6, e7, e8, trivial⟩).sub ⟨rfl, rfl, rfl, rfl, rfl, rfl, rfl, rfl, rfl, rfl, rfl, rfl, rfl, rfl, rfl, rfl, trivial⟩
          have M1 := M0.grow hb2
          clear hK K0 e0 K1 e1 K2 e2 K3 e3 K4 e4 K5 e5 K6 e6 K7 e7 K8 e8
          clear F12 M0
          refine nx ?_
          refine wp_seq ?_
          refine wsl ?_
          refine mvS F13 rfl rfl rfl rfl rfl fun a14 F14 => ?_
          refine sr (v := (.bool false)) F14 (run_eqi rfl (F14.ev 52 rfl) rfl (beq_eq_false_iff_ne.2 (by omega))) rfl rfl rfl fun a15 F15 => ?_
          refine mvS F15 rfl rfl rfl rfl rfl fun a16 F16 => ?_
          refine sq (v := (.int .i64 (far : Int))) F16 (wantedG F16 rfl rfl rfl rfl rfl) (run_mv rfl (F16.ev 8 rfl)) rfl (by decide) fun a17 F17 => ?_
          refine sq (v := (.string ⟨o2.toArray⟩)) F17 (wantedG F17 rfl rfl rfl rfl rfl) (run_mv rfl (F17.ev 6 rfl)) rfl (by decide) fun a18 F18 => ?_
          refine sq (v := (.int .i64 (o2.length : Int))) F18 (wantedG F18 rfl rfl rfl rfl rfl) (run_len rfl (F18.ev 56 rfl) rfl Tryd.underlying9) rfl (by decide) fun a19 F19 => ?_
          refine sq (v := (.bool false)) F19 (wantedG F19 rfl rfl rfl rfl rfl) (run_gtr rfl (F19.ev 55 rfl) (F19.ev 57 rfl) (decide_eq_false (by omega))) rfl (by decide) fun a20 F20 => ?_
          refine sr (v := (.bool false)) F20 (run_pick rfl (F20.ev 54 rfl) rfl (F20.ev 58 rfl)) rfl rfl rfl fun a21 F21 => ?_
          refine sn ?_
          clear F13 F14 F15 F16 F17 F18 F19 F20
          refine cfs (F21.ev 59 rfl) ?_
          refine wp_seq ?_
          refine wsl ?_
          refine mvS F21 rfl rfl rfl rfl rfl fun a22 F22 => ?_
          refine sr F22 (run_len rfl (F22.ev 60 rfl) rfl Tryd.underlying9) rfl rfl rfl fun a23 F23 => ?_
          refine mvS F23 rfl rfl rfl rfl rfl fun a24 F24 => ?_
          refine sr F24 (run_add (r := (o2.length : Int) + (c : Int)) rfl (F24.ev 61 rfl) (F24.ev 62 rfl) (by rw [IntKind.wrap_i64]; omega)) rfl rfl rfl fun a25 F25 => ?_
          refine sr F25 (run_sub (r := ((o2.length : Int) + (c : Int)) - 124) rfl (F25.ev 63 rfl) rfl (by rw [IntKind.wrap_i64]; omega)) rfl rfl rfl fun a26 F26 => ?_
          refine mvS F26 rfl rfl rfl rfl rfl fun a27 F27 => ?_
          refine sr (v := (.bool true)) F27 (run_gtr rfl (F27.ev 64 rfl) (F27.ev 65 rfl) (decide_eq_true (by omega))) rfl rfl rfl fun a28 F28 => ?_
          refine sn ?_
          clear F21 F22 F23 F24 F25 F26 F27
          refine wp_cond_true (F28.ev 66 rfl) ?_
          refine wsl ?_
          refine sr (v := (.string ⟨List.toArray []⟩)) F28 (run_as rfl rfl) rfl rfl rfl fun a29 F29 => ?_
          refine sr (v := (.int .i64 6)) F29 (run_as rfl rfl) rfl rfl rfl fun a30 F30 => ?_
          refine sn ?_
          clear F28 F29
          refine wp_ret ?_
          refine nxRet ?_
          refine bkRet ?_
          refine nxRet ?_
          refine bkRet ?_
          refine nxRet ?_
          exact ret2 F30 rfl rfl rfl ⟨by rw [hr], M1.below⟩
      have hres : tokS o2 b2 most = (0, copyS o2 far (c - 124), 3) := by unfold tokS; rw [hc', if_neg k1, if_neg k2, hfar', if_neg k5, if_neg k6]
      rw [hres, if_neg (by simp)] at he
      refine wp_seq ?_
      refine wsl ?_
      refine mvS F0 rfl rfl rfl rfl rfl fun a1 F1 => ?_
      refine sr F1 (run_len rfl (F1.ev 11 rfl) rfl Tryd.underlying9) rfl rfl rfl fun a2 F2 => ?_
      refine sr (v := (.bool true)) F2 (run_gtr rfl (F2.ev 12 rfl) rfl (decide_eq_true (by omega))) rfl rfl rfl fun a3 F3 => ?_
      refine sn ?_
      clear F0 F1 F2
      refine cts (F3.ev 13 rfl) ?_
      refine wp_block ?_
      refine wsl ?_
      refine mvS F3 rfl rfl rfl rfl rfl fun a4 F4 => ?_
      refine sr (v := (.int .u8 ((bt b2 0).toNat : Int))) F4 (run_sAt (n := 0) rfl (F4.ev 14 rfl) rfl Tryd.underlying9 rfl (by omega)) rfl rfl rfl fun a5 F5 => ?_
      refine sr F5 (run_cvI (r := (c : Int)) rfl (F5.ev 15 rfl) Tryd.underlying5 Tryd.underlying3 (by rw [IntKind.wrap_i64]; omega)) rfl rfl rfl fun a6 F6 => ?_
      refine asS F6 rfl rfl rfl rfl rfl fun a7 F7 => ?_
      refine sn ?_
      clear F3 F4 F5 F6
      refine wsl ?_
      refine mvS F7 rfl rfl rfl rfl rfl fun a8 F8 => ?_
      refine sr (v := (.bool false)) F8 (run_lss rfl (F8.ev 17 rfl) rfl (decide_eq_false (by omega))) rfl rfl rfl fun a9 F9 => ?_
      refine sn ?_
      clear F7 F8
      refine wp_cond_false (F9.ev 18 rfl) ?_
      refine wp_seq ?_
      refine wsl ?_
      refine mvS F9 rfl rfl rfl rfl rfl fun a10 F10 => ?_
      refine sr F10 (run_len rfl (F10.ev 41 rfl) rfl Tryd.underlying9) rfl rfl rfl fun a11 F11 => ?_
      refine sr (v := (.bool false)) F11 (run_lss rfl (F11.ev 42 rfl) rfl (decide_eq_false (by omega))) rfl rfl rfl fun a12 F12 => ?_
      refine sn ?_
      clear F9 F10 F11
      refine cfs (F12.ev 43 rfl) ?_
      refine wp_seq ?_
      obtain ⟨KL, hKL⟩ : ∃ KL, KL = [kval (.string ⟨b2.toArray⟩), kval (.int .u8 ((bt b2 1).toNat : Int)), kval (.int .i64 ((bt b2 1).toNat : Int)), kval (.string ⟨b2.toArray⟩), kval (.int .u8 ((bt b2 2).toNat : Int)), kval (.int .i64 ((bt b2 2).toNat : Int)), kval (.int .i64 ((256 * (bt b2 2).toNat : Nat) : Int)), kval (.int .i64 (far : Int)), kval (.int .i64 (far : Int))] := ⟨_, rfl⟩
      have K0 := getK hKL 0
      have K1 := getK hKL 1
      have K2 := getK hKL 2
      have K3 := getK hKL 3
      have K4 := getK hKL 4
      have K5 := getK hKL 5
      have K6 := getK hKL 6
      have K7 := getK hKL 7
      have K8 := getK hKL 8
      clear hKL
      refine wp_region_kd 89 (by kernel_rfl) (by kernel_rfl) (by kernel_rfl) F12.size KL ?_ ?_
      · refine ⟨?_, ?_, ?_, ?_, ?_, ?_, ?_, ?_, ?_, trivial⟩
        · exact asksY rfl fun a W hS hh hd => giv_run (run_mv rfl (eval_tmp (hh 0 _ rfl (F12.at 0 rfl)))) K0
        · exact asksY rfl fun a W hS hh hd => giv_run (run_sAt (n := 1) rfl (eval_tmp (hd.vl 0 44 (by kernel_rfl) K0)) rfl Tryd.underlying9 rfl (by omega)) K1
        · exact asksY rfl fun a W hS hh hd => giv_run (run_cvI (r := ((bt b2 1).toNat : Int)) rfl (eval_tmp (hd.vl 1 45 (by kernel_rfl) K1)) Tryd.underlying5 Tryd.underlying3 (by rw [IntKind.wrap_i64]; omega)) K2
        · exact asksY rfl fun a W hS hh hd => giv_run (run_mv rfl (eval_tmp (hh 0 _ rfl (F12.at 0 rfl)))) K3
        · exact asksY rfl fun a W hS hh hd => giv_run (run_sAt (n := 2) rfl (eval_tmp (hd.vl 3 47 (by kernel_rfl) K3)) rfl Tryd.underlying9 rfl (by omega)) K4
        · exact asksY rfl fun a W hS hh hd => giv_run (run_cvI (r := ((bt b2 2).toNat : Int)) rfl (eval_tmp (hd.vl 4 48 (by kernel_rfl) K4)) Tryd.underlying5 Tryd.underlying3 (by rw [IntKind.wrap_i64]; omega)) K5
        · exact asksY rfl fun a W hS hh hd => giv_run (run_mul (r := ((256 * (bt b2 2).toNat : Nat) : Int)) rfl rfl (eval_tmp (hd.vl 5 49 (by kernel_rfl) K5)) (by rw [IntKind.wrap_i64]; omega)) K6
        · exact asksY rfl fun a W hS hh hd => giv_run (run_add (r := (far : Int)) rfl (eval_tmp (hd.vl 2 46 (by kernel_rfl) K2)) (eval_tmp (hd.vl 6 50 (by kernel_rfl) K6)) (by rw [IntKind.wrap_i64]; omega)) K7
        · exact asksY rfl fun a W hS hh hd => giv_run (run_as rfl (eval_tmp (hd.vl 7 51 (by kernel_rfl) K7))) K8
      · intro a13 w2 hb2 hK
        have e0 := hK.vl 0 44 (by kernel_rfl) K0
        have e1 := hK.vl 1 45 (by kernel_rfl) K1
        have e2 := hK.vl 2 46 (by kernel_rfl) K2
        have e3 := hK.vl 3 47 (by kernel_rfl) K3
        have e4 := hK.vl 4 48 (by kernel_rfl) K4
        have e5 := hK.vl 5 49 (by kernel_rfl) K5
        have e6 := hK.vl 6 50 (by kernel_rfl) K6
        have e7 := hK.vl 7 51 (by kernel_rfl) K7
        have e8 := hK.vl 8 8 (by kernel_rfl) K8
        have F13 : Fr a13 89 [(0, (.string ⟨b2.toArray⟩)), (1, (.int .i64 most)), (6, (.string ⟨o2.toArray⟩)), (7, (.int .i64 (c : Int))), (8, (.int .i64 (far : Int))), (11, (.string ⟨b2.toArray⟩)), (12, (.int .i64 (b2.length : Int))), (13, (.bool true)), (14, (.string ⟨b2.toArray⟩)), (15, (.int .u8 ((bt b2 0).toNat : Int))), (16, (.int .i64 (c : Int))), (17, (.int .i64 (c : Int))), (18, (.bool false)), (41, (.string ⟨b2.toArray⟩)), (42, (.int .i64 (b2.length : Int))), (43, (.bool false))] := (hK.fr F12 [_, _, _, _, _, _, _, _, _] ⟨e0, e1, e2, e3, e4, e5, e6, e7, e8, trivial⟩).sub ⟨rfl, rfl, rfl, rfl, rfl, rfl, rfl, rfl, rfl, rfl, rfl, rfl, rfl, rfl, rfl, rfl, trivial⟩
        have M1 := M0.grow hb2
        clear hK K0 e0 K1 e1 K2 e2 K3 e3 K4 e4 K5 e5 K6 e6 K7 e7 K8 e8
        clear F12 M0
        refine nx ?_
        refine wp_seq ?_
        refine wsl ?_
        refine mvS F13 rfl rfl rfl rfl rfl fun a14 F14 => ?_
        refine sr (v := (.bool false)) F14 (run_eqi rfl (F14.ev 52 rfl) rfl (beq_eq_false_iff_ne.2 (by omega))) rfl rfl rfl fun a15 F15 => ?_
        refine mvS F15 rfl rfl rfl rfl rfl fun a16 F16 => ?_
        refine sq (v := (.int .i64 (far : Int))) F16 (wantedG F16 rfl rfl rfl rfl rfl) (run_mv rfl (F16.ev 8 rfl)) rfl (by decide) fun a17 F17 => ?_
        refine sq (v := (.string ⟨o2.toArray⟩)) F17 (wantedG F17 rfl rfl rfl rfl rfl) (run_mv rfl (F17.ev 6 rfl)) rfl (by decide) fun a18 F18 => ?_
        refine sq (v := (.int .i64 (o2.length : Int))) F18 (wantedG F18 rfl rfl rfl rfl rfl) (run_len rfl (F18.ev 56 rfl) rfl Tryd.underlying9) rfl (by decide) fun a19 F19 => ?_
        refine sq (v := (.bool false)) F19 (wantedG F19 rfl rfl rfl rfl rfl) (run_gtr rfl (F19.ev 55 rfl) (F19.ev 57 rfl) (decide_eq_false (by omega))) rfl (by decide) fun a20 F20 => ?_
        refine sr (v := (.bool false)) F20 (run_pick rfl (F20.ev 54 rfl) rfl (F20.ev 58 rfl)) rfl rfl rfl fun a21 F21 => ?_
        refine sn ?_
        clear F13 F14 F15 F16 F17 F18 F19 F20
        refine cfs (F21.ev 59 rfl) ?_
        refine wp_seq ?_
        refine wsl ?_
        refine mvS F21 rfl rfl rfl rfl rfl fun a22 F22 => ?_
        refine sr F22 (run_len rfl (F22.ev 60 rfl) rfl Tryd.underlying9) rfl rfl rfl fun a23 F23 => ?_
        refine mvS F23 rfl rfl rfl rfl rfl fun a24 F24 => ?_
        refine sr F24 (run_add (r := (o2.length : Int) + (c : Int)) rfl (F24.ev 61 rfl) (F24.ev 62 rfl) (by rw [IntKind.wrap_i64]; omega)) rfl rfl rfl fun a25 F25 => ?_
        refine sr F25 (run_sub (r := ((o2.length : Int) + (c : Int)) - 124) rfl (F25.ev 63 rfl) rfl (by rw [IntKind.wrap_i64]; omega)) rfl rfl rfl fun a26 F26 => ?_
        refine mvS F26 rfl rfl rfl rfl rfl fun a27 F27 => ?_
        refine sr (v := (.bool false)) F27 (run_gtr rfl (F27.ev 64 rfl) (F27.ev 65 rfl) (decide_eq_false (by omega))) rfl rfl rfl fun a28 F28 => ?_
        refine sn ?_
        clear F21 F22 F23 F24 F25 F26 F27
        refine cfs (F28.ev 66 rfl) ?_
        refine wp_seq ?_
        refine wsl ?_
        refine sr (v := (.int .i64 0)) F28 (run_as rfl rfl) rfl rfl rfl fun a29 F29 => ?_
        refine sn ?_
        clear F28
        refine wp_block ?_
        refine wkLoop (fun m a w2 => ∃ i : Nat, i ≤ c - 124 ∧ m = c - 124 - i ∧ Fr a 89 [(0, .string ⟨b2.toArray⟩), (1, .int .i64 most), (6, .string ⟨(copyS o2 far i).toArray⟩), (7, .int .i64 (c : Int)), (8, .int .i64 (far : Int)), (9, .int .i64 (i : Int))] ∧ Mem w [] w2) (c - 124) ⟨0, Nat.zero_le _, rfl, F29.sub ⟨rfl, rfl, rfl, rfl, rfl, rfl, trivial⟩, M1⟩ ?_
        rintro m0 a0 w1 ⟨i, hi, rfl, F0, M0⟩
        have hcl := copyS_len o2 far i
        by_cases hlt2 : i < c - 124
        · have hx := bt_get (l := copyS o2 far i) (i := o2.length + i - far) (by omega)
          have hst : copyS o2 far (i + 1) = copyS o2 far i ++ ((copyS o2 far i).drop (o2.length + i - far)).take 1 := by
            rw [copyS, hcl, List.drop_eq_getElem_cons (by omega), List.take_succ_cons, List.take_zero, List.getD_eq_getElem?_getD, List.getElem?_eq_getElem (by omega)]
            rfl
          refine wp_seq ?_
          refine wsl ?_
          refine mvS F0 rfl rfl rfl rfl rfl fun a1 F1 => ?_
          refine mvS F1 rfl rfl rfl rfl rfl fun a2 F2 => ?_
          refine sr F2 (run_sub (r := ((c - 124 : Nat) : Int)) rfl (F2.ev 68 rfl) rfl (by rw [IntKind.wrap_i64]; omega)) rfl rfl rfl fun a3 F3 => ?_
          refine sr (v := (.bool true)) F3 (run_lss rfl (F3.ev 67 rfl) (F3.ev 69 rfl) (decide_eq_true (by omega))) rfl rfl rfl fun a4 F4 => ?_
          refine sn ?_
          clear F0 F1 F2 F3
          refine cts (F4.ev 70 rfl) ?_
          refine wp_seq ?_
          refine wp_block ?_
          refine wsl ?_
          refine mvS F4 rfl rfl rfl rfl rfl fun a5 F5 => ?_
          refine sr F5 (run_len rfl (F5.ev 73 rfl) rfl Tryd.underlying9) rfl rfl rfl fun a6 F6 => ?_
          refine mvS F6 rfl rfl rfl rfl rfl fun a7 F7 => ?_
          refine sr F7 (run_sub (r := ((o2.length + i - far : Nat) : Int)) rfl (F7.ev 74 rfl) (F7.ev 75 rfl) (by rw [IntKind.wrap_i64]; omega)) rfl rfl rfl fun a8 F8 => ?_
          refine asS F8 rfl rfl rfl rfl rfl fun a9 F9 => ?_
          refine sn ?_
          clear F4 F5 F6 F7 F8
          refine wp_region_lit ?_
          refine mvS F9 rfl rfl rfl rfl rfl fun a10 F10 => ?_
          refine mvS F10 rfl rfl rfl rfl rfl fun a11 F11 => ?_
          refine mvS F11 rfl rfl rfl rfl rfl fun a12 F12 => ?_
          refine mvS F12 rfl rfl rfl rfl rfl fun a13 F13 => ?_
          refine sr F13 (run_add (r := ((o2.length + i - far + 1 : Nat) : Int)) rfl (F13.ev 80 rfl) rfl (by rw [IntKind.wrap_i64]; omega)) rfl rfl rfl fun a14 F14 => ?_
          refine sr (v := (.string ⟨(((copyS o2 far i).drop (o2.length + i - far)).take 1).toArray⟩)) F14 (run_sMidE (m := (o2.length + i - far)) (m2 := (o2.length + i - far + 1)) (by rw [show o2.length + i - far + 1 - (o2.length + i - far) = 1 by omega]) rfl (F14.ev 78 rfl) (F14.ev 79 rfl) (F14.ev 81 rfl) Tryd.underlying9 (by omega) (by omega) (by omega) (by omega)) rfl rfl rfl fun a15 F15 => ?_
          refine sr (v := (.string ⟨(copyS o2 far i ++ (((copyS o2 far i).drop (o2.length + i - far)).take 1)).toArray⟩)) F15 (run_cat rfl (F15.ev 77 rfl) (F15.ev 82 rfl) (by simp; omega)) rfl rfl rfl fun a16 F16 => ?_
          refine asS F16 rfl rfl rfl rfl rfl fun a17 F17 => ?_
          refine sqEnd ?_
          clear F9 F10 F11 F12 F13 F14 F15 F16
          refine bkEnd ?_
          refine nx ?_
          refine wp_region_lit ?_
          refine mvS F17 rfl rfl rfl rfl rfl fun a18 F18 => ?_
          refine sr F18 (run_add (r := ((i + 1 : Nat) : Int)) rfl (F18.ev 71 rfl) rfl (by rw [IntKind.wrap_i64]; omega)) rfl rfl rfl fun a19 F19 => ?_
          refine asS F19 rfl rfl rfl rfl rfl fun a20 F20 => ?_
          refine sn ?_
          clear F17 F18 F19
          exact ⟨_, by omega, i + 1, by omega, rfl, by rw [hst]; exact F20.sub ⟨rfl, rfl, rfl, rfl, rfl, rfl, trivial⟩, M0⟩
        · have hie : i = c - 124 := by omega
          rw [hie] at F0
          refine wp_seq ?_
          refine wsl ?_
          refine mvS F0 rfl rfl rfl rfl rfl fun a1 F1 => ?_
          refine mvS F1 rfl rfl rfl rfl rfl fun a2 F2 => ?_
          refine sr F2 (run_sub (r := ((c - 124 : Nat) : Int)) rfl (F2.ev 68 rfl) rfl (by rw [IntKind.wrap_i64]; omega)) rfl rfl rfl fun a3 F3 => ?_
          refine sr (v := (.bool false)) F3 (run_lss rfl (F3.ev 67 rfl) (F3.ev 69 rfl) (decide_eq_false (by omega))) rfl rfl rfl fun a4 F4 => ?_
          refine sn ?_
          clear F0 F1 F2 F3
          refine wp_cond_false (F4.ev 70 rfl) ?_
          refine wp_exit ?_
          refine nxExit ?_
          refine nxExit ?_
          refine bkHere ?_
          refine nx ?_
          refine wp_region_lit ?_
          refine mvS F4 rfl rfl rfl rfl rfl fun a5 F5 => ?_
          refine sr (v := (.string ⟨(b2.drop 3).toArray⟩)) F5 (run_sFrom (m := 3) rfl (F5.ev 84 rfl) rfl Tryd.underlying9 (by omega) (by omega)) rfl rfl rfl fun a6 F6 => ?_
          refine asS F6 rfl rfl rfl rfl rfl fun a7 F7 => ?_
          refine sqEnd ?_
          clear F4 F5 F6
          refine bkEnd ?_
          refine nx ?_
          exact ⟨_, by rw [List.length_drop]; omega, copyS o2 far (c - 124), b2.drop 3, rfl, he, by rw [List.length_drop]; omega, by rw [List.length_drop, copyS_len]; omega, F7.sub ⟨rfl, rfl, rfl, trivial⟩, M0⟩
  · have he0 : b2 = [] := List.length_eq_zero_iff.1 (by omega)
    rw [he0, unpT_nil] at he
    have hr := unpS_end he.symm
    by_cases hm : most < 0
    · rw [if_pos hm] at hr
      refine wp_seq ?_
      refine wsl ?_
      refine mvS F0 rfl rfl rfl rfl rfl fun a1 F1 => ?_
      refine sr F1 (run_len rfl (F1.ev 11 rfl) rfl Tryd.underlying9) rfl rfl rfl fun a2 F2 => ?_
      refine sr (v := (.bool false)) F2 (run_gtr rfl (F2.ev 12 rfl) rfl (decide_eq_false (by omega))) rfl rfl rfl fun a3 F3 => ?_
      refine sn ?_
      clear F0 F1 F2
      refine wp_cond_false (F3.ev 13 rfl) ?_
      refine wp_exit ?_
      refine nxExit ?_
      refine nxExit ?_
      refine bkHere ?_
      refine nx ?_
      refine wp_seq ?_
      refine wsl ?_
      refine mvS F3 rfl rfl rfl rfl rfl fun a4 F4 => ?_
      refine sr (v := (.bool true)) F4 (run_lss rfl (F4.ev 86 rfl) rfl (decide_eq_true (by omega))) rfl rfl rfl fun a5 F5 => ?_
      refine sn ?_
      clear F3 F4
      refine wp_cond_true (F5.ev 87 rfl) ?_
      refine wsl ?_
      refine sr (v := (.string ⟨List.toArray []⟩)) F5 (run_as rfl rfl) rfl rfl rfl fun a6 F6 => ?_
      refine sr (v := (.int .i64 6)) F6 (run_as rfl rfl) rfl rfl rfl fun a7 F7 => ?_
      refine sn ?_
      clear F5 F6
      refine wp_ret ?_
      refine nxRet ?_
      exact ret2 F7 rfl rfl rfl ⟨by rw [hr], M0.below⟩
    · rw [if_neg hm] at hr
      refine wp_seq ?_
      refine wsl ?_
      refine mvS F0 rfl rfl rfl rfl rfl fun a1 F1 => ?_
      refine sr F1 (run_len rfl (F1.ev 11 rfl) rfl Tryd.underlying9) rfl rfl rfl fun a2 F2 => ?_
      refine sr (v := (.bool false)) F2 (run_gtr rfl (F2.ev 12 rfl) rfl (decide_eq_false (by omega))) rfl rfl rfl fun a3 F3 => ?_
      refine sn ?_
      clear F0 F1 F2
      refine wp_cond_false (F3.ev 13 rfl) ?_
      refine wp_exit ?_
      refine nxExit ?_
      refine nxExit ?_
      refine bkHere ?_
      refine nx ?_
      refine wp_seq ?_
      refine wsl ?_
      refine mvS F3 rfl rfl rfl rfl rfl fun a4 F4 => ?_
      refine sr (v := (.bool false)) F4 (run_lss rfl (F4.ev 86 rfl) rfl (decide_eq_false (by omega))) rfl rfl rfl fun a5 F5 => ?_
      refine sn ?_
      clear F3 F4
      refine cfs (F5.ev 87 rfl) ?_
      refine wsl ?_
      refine mvS F5 rfl rfl rfl rfl rfl fun a6 F6 => ?_
      refine asS F6 rfl rfl rfl rfl rfl fun a7 F7 => ?_
      refine sr (v := (.int .i64 0)) F7 (run_as rfl rfl) rfl rfl rfl fun a8 F8 => ?_
      refine sn ?_
      clear F5 F6 F7
      refine wp_ret ?_
      exact ret2 F8 rfl rfl rfl ⟨by rw [hr], M0.below⟩
end Go.Proofs.YtdjjiblijbjobaaDoor
