/- The walks of the reference's same, best, run, Pack and Unpack. Printed by gen_lz2.py. -/
import Derived.Test.YtpobmaklgnioeaaLz1
import Derived.Test.YtpobmaklgnioeaaLzL
namespace Go.Proofs.Ytpobmaklgnioeaa
open Go.RowKit

theorem bt_get {l : List UInt8} {i : Nat} (h : i < l.length) : l[i]? = some (bt l i) := by simp [bt, h]
theorem bt_ne {l : List UInt8} {i j : Nat} (hi : i < l.length) (hj : j < l.length) (h : ¬ (bt l i).toNat = (bt l j).toNat) : l[i]? ≠ l[j]? := by
  rw [bt_get hi, bt_get hj]
  intro e
  injection e with e
  exact h (by rw [e])
theorem bt_eq {l : List UInt8} {i j : Nat} (hi : i < l.length) (hj : j < l.length) (h : (bt l i).toNat = (bt l j).toNat) : l[i]? = l[j]? := by
  rw [bt_get hi, bt_get hj, UInt8.toNat_inj.1 h]
set_option maxRecDepth 100000 in
set_option maxHeartbeats 1000000 in
theorem rsame_any (s : List UInt8) (p far : Nat) (w : World) (hs : s.length ≤ 2 ^ 32) (hf : 0 < far) (hfp : far ≤ p) (hp : p ≤ s.length) : Calls Try.prog 22 #[.string ⟨s.toArray⟩, .int .i64 (p : Int), .int .i64 (far : Int)] w fun e w' => e = .returned (.int .i64 (sameS s p far : Int)) ∧ Below w.heap.size w w' := by
  refine walk_enter Try.func22 rfl rfl rfl fun a0 hF0 => ?_
  have hM0 := Mem.new w
  refine wp_seq ?_
  refine wp_region_lit ?_
  refine sq (v := (.int .i64 0)) hF0 (wantedS rfl) (run_as rfl rfl) rfl (by decide) fun a1 hF1 => ?_
  refine sqEnd ?_
  clear hF0
  refine nx ?_
  refine wp_seq ?_
  refine wp_region_lit ?_
  refine sq (v := (.int .i64 0)) hF1 (wantedS rfl) (run_as rfl rfl) rfl (by decide) fun a2 hF2 => ?_
  refine sqEnd ?_
  clear hF1
  refine nx ?_
  refine wp_seq ?_
  refine wp_block ?_
  refine wkLoop (fun m a w2 => ∃ n : Nat, n ≤ mostS s p ∧ m = mostS s p - n ∧ (∀ i, i < n → s[p + i]? = s[p - far + i]?) ∧ Fr a 36 [(0, .string ⟨s.toArray⟩), (1, .int .i64 (p : Int)), (2, .int .i64 (far : Int)), (7, .int .i64 (n : Int))] ∧ Mem w [] w2) (mostS s p) ⟨0, Nat.zero_le _, rfl, fun i hi => by omega, hF2.sub ⟨rfl, rfl, rfl, rfl, trivial⟩, hM0⟩ ?_
  rintro m a0 w1 ⟨n, hn, rfl, hal, hF0, hM0⟩
  have hms : mostS s p = min 131 (s.length - p) := rfl
  by_cases h1 : s.length ≤ p + n
  · have hres : sameS s p far = n := sameS_eq hn hal (.inl (by omega))
    refine wp_seq ?_
    refine wp_seq ?_
    obtain ⟨KL, hKL⟩ : ∃ KL, KL = [kval (.int .i64 (p : Int)), kval (.int .i64 (n : Int)), kval (.int .i64 ((p + n : Nat) : Int)), kval (.string ⟨s.toArray⟩), kval (.int .i64 (s.length : Int)), kval (.bool false), kval (.bool false), kval undef, kval undef, kval (.bool false), kval (.bool false), kval undef, kval undef, kval undef, kval undef, kval undef, kval undef, kval undef, kval undef, kval undef, kval undef, kval undef, kval undef, kval undef, kval (.bool false)] := ⟨_, rfl⟩
    have K0 : KL.getD 0 kany = kval (.int .i64 (p : Int)) := by rw [hKL]; rfl
    have K1 : KL.getD 1 kany = kval (.int .i64 (n : Int)) := by rw [hKL]; rfl
    have K2 : KL.getD 2 kany = kval (.int .i64 ((p + n : Nat) : Int)) := by rw [hKL]; rfl
    have K3 : KL.getD 3 kany = kval (.string ⟨s.toArray⟩) := by rw [hKL]; rfl
    have K4 : KL.getD 4 kany = kval (.int .i64 (s.length : Int)) := by rw [hKL]; rfl
    have K5 : KL.getD 5 kany = kval (.bool false) := by rw [hKL]; rfl
    have K6 : KL.getD 6 kany = kval (.bool false) := by rw [hKL]; rfl
    have K7 : KL.getD 7 kany = kval undef := by rw [hKL]; rfl
    have K8 : KL.getD 8 kany = kval undef := by rw [hKL]; rfl
    have K9 : KL.getD 9 kany = kval (.bool false) := by rw [hKL]; rfl
    have K10 : KL.getD 10 kany = kval (.bool false) := by rw [hKL]; rfl
    have K11 : KL.getD 11 kany = kval undef := by rw [hKL]; rfl
    have K12 : KL.getD 12 kany = kval undef := by rw [hKL]; rfl
    have K13 : KL.getD 13 kany = kval undef := by rw [hKL]; rfl
    have K14 : KL.getD 14 kany = kval undef := by rw [hKL]; rfl
    have K15 : KL.getD 15 kany = kval undef := by rw [hKL]; rfl
    have K16 : KL.getD 16 kany = kval undef := by rw [hKL]; rfl
    have K17 : KL.getD 17 kany = kval undef := by rw [hKL]; rfl
    have K18 : KL.getD 18 kany = kval undef := by rw [hKL]; rfl
    have K19 : KL.getD 19 kany = kval undef := by rw [hKL]; rfl
    have K20 : KL.getD 20 kany = kval undef := by rw [hKL]; rfl
    have K21 : KL.getD 21 kany = kval undef := by rw [hKL]; rfl
    have K22 : KL.getD 22 kany = kval undef := by rw [hKL]; rfl
    have K23 : KL.getD 23 kany = kval undef := by rw [hKL]; rfl
    have K24 : KL.getD 24 kany = kval (.bool false) := by rw [hKL]; rfl
    clear hKL
    refine wp_region_kd 36 (by kernel_rfl) (by kernel_rfl) (by kernel_rfl) hF0.size KL ?_ ?_
    · refine ⟨?_, ?_, ?_, ?_, ?_, ?_, ?_, ?_, ?_, ?_, ?_, ?_, ?_, ?_, ?_, ?_, ?_, ?_, ?_, ?_, ?_, ?_, ?_, ?_, ?_, trivial⟩
      · refine asks_mk fun a W hS hh hd => ⟨wanted_yes rfl, ?_⟩
        exact giv_run (run_mv rfl (eval_tmp (hh 1 _ rfl (hF0.at 1 rfl)))) K0
      · refine asks_mk fun a W hS hh hd => ⟨wanted_yes rfl, ?_⟩
        exact giv_run (run_mv rfl (eval_tmp (hh 7 _ rfl (hF0.at 7 rfl)))) K1
      · refine asks_mk fun a W hS hh hd => ⟨wanted_yes rfl, ?_⟩
        exact giv_run (run_add (r := ((p + n : Nat) : Int)) rfl (eval_tmp (hd.val (j := 0) (s := 8) (by kernel_rfl) K0)) (eval_tmp (hd.val (j := 1) (s := 9) (by kernel_rfl) K1)) (by rw [IntKind.wrap_i64]; omega)) K2
      · refine asks_mk fun a W hS hh hd => ⟨wanted_yes rfl, ?_⟩
        exact giv_run (run_mv rfl (eval_tmp (hh 0 _ rfl (hF0.at 0 rfl)))) K3
      · refine asks_mk fun a W hS hh hd => ⟨wanted_yes rfl, ?_⟩
        exact giv_run (run_len rfl (eval_tmp (hd.val (j := 3) (s := 11) (by kernel_rfl) K3)) rfl Try.underlying9) K4
      · refine asks_mk fun a W hS hh hd => ⟨wanted_yes rfl, ?_⟩
        exact giv_run (run_lss rfl (eval_tmp (hd.val (j := 2) (s := 10) (by kernel_rfl) K2)) (eval_tmp (hd.val (j := 4) (s := 12) (by kernel_rfl) K4)) (decide_eq_false (by omega))) K5
      · refine asks_mk fun a W hS hh hd => ⟨wanted_yes rfl, ?_⟩
        exact giv_run (run_mv rfl (eval_tmp (hd.val (j := 5) (s := 13) (by kernel_rfl) K5))) K6
      · exact asks_skip fun a W hS hh hd => ⟨unwanted_of (j := 6) (s := 14) (want := true) (by kernel_rfl) (hd.val (j := 6) (s := 14) (by kernel_rfl) K6), show kT KL 7 undef W by unfold kT; rw [K7]; rfl⟩
      · exact asks_skip fun a W hS hh hd => ⟨unwanted_of (j := 6) (s := 14) (want := true) (by kernel_rfl) (hd.val (j := 6) (s := 14) (by kernel_rfl) K6), show kT KL 8 undef W by unfold kT; rw [K8]; rfl⟩
      · refine asks_mk fun a W hS hh hd => ⟨wanted_yes rfl, ?_⟩
        exact giv_run (run_pick rfl (eval_tmp (hd.val (j := 6) (s := 14) (by kernel_rfl) K6)) (eval_tmp (hd.val (j := 8) (s := 16) (by kernel_rfl) K8)) rfl) K9
      · refine asks_mk fun a W hS hh hd => ⟨wanted_yes rfl, ?_⟩
        exact giv_run (run_mv rfl (eval_tmp (hd.val (j := 9) (s := 17) (by kernel_rfl) K9))) K10
      · exact asks_skip fun a W hS hh hd => ⟨unwanted_of (j := 10) (s := 18) (want := true) (by kernel_rfl) (hd.val (j := 10) (s := 18) (by kernel_rfl) K10), show kT KL 11 undef W by unfold kT; rw [K11]; rfl⟩
      · exact asks_skip fun a W hS hh hd => ⟨unwanted_of (j := 10) (s := 18) (want := true) (by kernel_rfl) (hd.val (j := 10) (s := 18) (by kernel_rfl) K10), show kT KL 12 undef W by unfold kT; rw [K12]; rfl⟩
      · exact asks_skip fun a W hS hh hd => ⟨unwanted_of (j := 10) (s := 18) (want := true) (by kernel_rfl) (hd.val (j := 10) (s := 18) (by kernel_rfl) K10), show kT KL 13 undef W by unfold kT; rw [K13]; rfl⟩
      · exact asks_skip fun a W hS hh hd => ⟨unwanted_of (j := 10) (s := 18) (want := true) (by kernel_rfl) (hd.val (j := 10) (s := 18) (by kernel_rfl) K10), show kT KL 14 undef W by unfold kT; rw [K14]; rfl⟩
      · exact asks_skip fun a W hS hh hd => ⟨unwanted_of (j := 10) (s := 18) (want := true) (by kernel_rfl) (hd.val (j := 10) (s := 18) (by kernel_rfl) K10), show kT KL 15 undef W by unfold kT; rw [K15]; rfl⟩
      · exact asks_skip fun a W hS hh hd => ⟨unwanted_of (j := 10) (s := 18) (want := true) (by kernel_rfl) (hd.val (j := 10) (s := 18) (by kernel_rfl) K10), show kT KL 16 undef W by unfold kT; rw [K16]; rfl⟩
      · exact asks_skip fun a W hS hh hd => ⟨unwanted_of (j := 10) (s := 18) (want := true) (by kernel_rfl) (hd.val (j := 10) (s := 18) (by kernel_rfl) K10), show kT KL 17 undef W by unfold kT; rw [K17]; rfl⟩
      · exact asks_skip fun a W hS hh hd => ⟨unwanted_of (j := 10) (s := 18) (want := true) (by kernel_rfl) (hd.val (j := 10) (s := 18) (by kernel_rfl) K10), show kT KL 18 undef W by unfold kT; rw [K18]; rfl⟩
      · exact asks_skip fun a W hS hh hd => ⟨unwanted_of (j := 10) (s := 18) (want := true) (by kernel_rfl) (hd.val (j := 10) (s := 18) (by kernel_rfl) K10), show kT KL 19 undef W by unfold kT; rw [K19]; rfl⟩
      · exact asks_skip fun a W hS hh hd => ⟨unwanted_of (j := 10) (s := 18) (want := true) (by kernel_rfl) (hd.val (j := 10) (s := 18) (by kernel_rfl) K10), show kT KL 20 undef W by unfold kT; rw [K20]; rfl⟩
      · exact asks_skip fun a W hS hh hd => ⟨unwanted_of (j := 10) (s := 18) (want := true) (by kernel_rfl) (hd.val (j := 10) (s := 18) (by kernel_rfl) K10), show kT KL 21 undef W by unfold kT; rw [K21]; rfl⟩
      · exact asks_skip fun a W hS hh hd => ⟨unwanted_of (j := 10) (s := 18) (want := true) (by kernel_rfl) (hd.val (j := 10) (s := 18) (by kernel_rfl) K10), show kT KL 22 undef W by unfold kT; rw [K22]; rfl⟩
      · exact asks_skip fun a W hS hh hd => ⟨unwanted_of (j := 10) (s := 18) (want := true) (by kernel_rfl) (hd.val (j := 10) (s := 18) (by kernel_rfl) K10), show kT KL 23 undef W by unfold kT; rw [K23]; rfl⟩
      · refine asks_mk fun a W hS hh hd => ⟨wanted_yes rfl, ?_⟩
        exact giv_run (run_pick rfl (eval_tmp (hd.val (j := 10) (s := 18) (by kernel_rfl) K10)) (eval_tmp (hd.val (j := 23) (s := 31) (by kernel_rfl) K23)) rfl) K24
    · intro a1 w2 hb2 hK
      have e0 := hK.val (i := 0) (s := 8) (by kernel_rfl) K0
      have e1 := hK.val (i := 1) (s := 9) (by kernel_rfl) K1
      have e2 := hK.val (i := 2) (s := 10) (by kernel_rfl) K2
      have e3 := hK.val (i := 3) (s := 11) (by kernel_rfl) K3
      have e4 := hK.val (i := 4) (s := 12) (by kernel_rfl) K4
      have e5 := hK.val (i := 5) (s := 13) (by kernel_rfl) K5
      have e6 := hK.val (i := 6) (s := 14) (by kernel_rfl) K6
      have e7 := hK.val (i := 7) (s := 15) (by kernel_rfl) K7
      have e8 := hK.val (i := 8) (s := 16) (by kernel_rfl) K8
      have e9 := hK.val (i := 9) (s := 17) (by kernel_rfl) K9
      have e10 := hK.val (i := 10) (s := 18) (by kernel_rfl) K10
      have e11 := hK.val (i := 11) (s := 19) (by kernel_rfl) K11
      have e12 := hK.val (i := 12) (s := 20) (by kernel_rfl) K12
      have e13 := hK.val (i := 13) (s := 21) (by kernel_rfl) K13
      have e14 := hK.val (i := 14) (s := 22) (by kernel_rfl) K14
      have e15 := hK.val (i := 15) (s := 23) (by kernel_rfl) K15
      have e16 := hK.val (i := 16) (s := 24) (by kernel_rfl) K16
      have e17 := hK.val (i := 17) (s := 25) (by kernel_rfl) K17
      have e18 := hK.val (i := 18) (s := 26) (by kernel_rfl) K18
      have e19 := hK.val (i := 19) (s := 27) (by kernel_rfl) K19
      have e20 := hK.val (i := 20) (s := 28) (by kernel_rfl) K20
      have e21 := hK.val (i := 21) (s := 29) (by kernel_rfl) K21
      have e22 := hK.val (i := 22) (s := 30) (by kernel_rfl) K22
      have e23 := hK.val (i := 23) (s := 31) (by kernel_rfl) K23
      have e24 := hK.val (i := 24) (s := 32) (by kernel_rfl) K24
      have hF1 : Fr a1 36 [(0, (.string ⟨s.toArray⟩)), (1, (.int .i64 (p : Int))), (2, (.int .i64 (far : Int))), (7, (.int .i64 (n : Int))), (32, (.bool false))] := (hK.fr hF0 [(.int .i64 (p : Int)), (.int .i64 (n : Int)), (.int .i64 ((p + n : Nat) : Int)), (.string ⟨s.toArray⟩), (.int .i64 (s.length : Int)), (.bool false), (.bool false), undef, undef, (.bool false), (.bool false), undef, undef, undef, undef, undef, undef, undef, undef, undef, undef, undef, undef, undef, (.bool false)] ⟨e0, e1, e2, e3, e4, e5, e6, e7, e8, e9, e10, e11, e12, e13, e14, e15, e16, e17, e18, e19, e20, e21, e22, e23, e24, trivial⟩).sub ⟨rfl, rfl, rfl, rfl, rfl, trivial⟩
      have hM1 := hM0.grow hb2
      clear hK K0 e0 K1 e1 K2 e2 K3 e3 K4 e4 K5 e5 K6 e6 K7 e7 K8 e8 K9 e9 K10 e10 K11 e11 K12 e12 K13 e13 K14 e14 K15 e15 K16 e16 K17 e17 K18 e18 K19 e19 K20 e20 K21 e21 K22 e22 K23 e23 K24 e24
      clear hF0 hM0
      refine nx ?_
      refine wp_cond_false (hF1.ev 32 rfl) ?_
      refine wp_exit ?_
      refine nxExit ?_
      refine nxExit ?_
      refine bkHere ?_
      refine nx ?_
      refine wp_seq ?_
      refine wp_region_lit ?_
      refine sq (v := (.int .i64 (n : Int))) hF1 (wantedS rfl) (run_mv rfl (hF1.ev 7 rfl)) rfl (by decide) fun a2 hF2 => ?_
      refine sq (v := (.int .i64 (n : Int))) hF2 (wantedS rfl) (run_as rfl (hF2.ev 35 rfl)) rfl (by decide) fun a3 hF3 => ?_
      refine sqEnd ?_
      clear hF1 hF2
      refine nx ?_
      refine wp_ret ?_
      exact ret1 hF3 rfl rfl ⟨by rw [hres], hM1.below⟩
  by_cases h2 : 131 ≤ n
  · have hres : sameS s p far = n := sameS_eq hn hal (.inl (by omega))
    refine wp_seq ?_
    refine wp_seq ?_
    obtain ⟨KL, hKL⟩ : ∃ KL, KL = [kval (.int .i64 (p : Int)), kval (.int .i64 (n : Int)), kval (.int .i64 ((p + n : Nat) : Int)), kval (.string ⟨s.toArray⟩), kval (.int .i64 (s.length : Int)), kval (.bool true), kval (.bool true), kval (.int .i64 (n : Int)), kval (.bool false), kval (.bool false), kval (.bool false), kval undef, kval undef, kval undef, kval undef, kval undef, kval undef, kval undef, kval undef, kval undef, kval undef, kval undef, kval undef, kval undef, kval (.bool false)] := ⟨_, rfl⟩
    have K0 : KL.getD 0 kany = kval (.int .i64 (p : Int)) := by rw [hKL]; rfl
    have K1 : KL.getD 1 kany = kval (.int .i64 (n : Int)) := by rw [hKL]; rfl
    have K2 : KL.getD 2 kany = kval (.int .i64 ((p + n : Nat) : Int)) := by rw [hKL]; rfl
    have K3 : KL.getD 3 kany = kval (.string ⟨s.toArray⟩) := by rw [hKL]; rfl
    have K4 : KL.getD 4 kany = kval (.int .i64 (s.length : Int)) := by rw [hKL]; rfl
    have K5 : KL.getD 5 kany = kval (.bool true) := by rw [hKL]; rfl
    have K6 : KL.getD 6 kany = kval (.bool true) := by rw [hKL]; rfl
    have K7 : KL.getD 7 kany = kval (.int .i64 (n : Int)) := by rw [hKL]; rfl
    have K8 : KL.getD 8 kany = kval (.bool false) := by rw [hKL]; rfl
    have K9 : KL.getD 9 kany = kval (.bool false) := by rw [hKL]; rfl
    have K10 : KL.getD 10 kany = kval (.bool false) := by rw [hKL]; rfl
    have K11 : KL.getD 11 kany = kval undef := by rw [hKL]; rfl
    have K12 : KL.getD 12 kany = kval undef := by rw [hKL]; rfl
    have K13 : KL.getD 13 kany = kval undef := by rw [hKL]; rfl
    have K14 : KL.getD 14 kany = kval undef := by rw [hKL]; rfl
    have K15 : KL.getD 15 kany = kval undef := by rw [hKL]; rfl
    have K16 : KL.getD 16 kany = kval undef := by rw [hKL]; rfl
    have K17 : KL.getD 17 kany = kval undef := by rw [hKL]; rfl
    have K18 : KL.getD 18 kany = kval undef := by rw [hKL]; rfl
    have K19 : KL.getD 19 kany = kval undef := by rw [hKL]; rfl
    have K20 : KL.getD 20 kany = kval undef := by rw [hKL]; rfl
    have K21 : KL.getD 21 kany = kval undef := by rw [hKL]; rfl
    have K22 : KL.getD 22 kany = kval undef := by rw [hKL]; rfl
    have K23 : KL.getD 23 kany = kval undef := by rw [hKL]; rfl
    have K24 : KL.getD 24 kany = kval (.bool false) := by rw [hKL]; rfl
    clear hKL
    refine wp_region_kd 36 (by kernel_rfl) (by kernel_rfl) (by kernel_rfl) hF0.size KL ?_ ?_
    · refine ⟨?_, ?_, ?_, ?_, ?_, ?_, ?_, ?_, ?_, ?_, ?_, ?_, ?_, ?_, ?_, ?_, ?_, ?_, ?_, ?_, ?_, ?_, ?_, ?_, ?_, trivial⟩
      · refine asks_mk fun a W hS hh hd => ⟨wanted_yes rfl, ?_⟩
        exact giv_run (run_mv rfl (eval_tmp (hh 1 _ rfl (hF0.at 1 rfl)))) K0
      · refine asks_mk fun a W hS hh hd => ⟨wanted_yes rfl, ?_⟩
        exact giv_run (run_mv rfl (eval_tmp (hh 7 _ rfl (hF0.at 7 rfl)))) K1
      · refine asks_mk fun a W hS hh hd => ⟨wanted_yes rfl, ?_⟩
        exact giv_run (run_add (r := ((p + n : Nat) : Int)) rfl (eval_tmp (hd.val (j := 0) (s := 8) (by kernel_rfl) K0)) (eval_tmp (hd.val (j := 1) (s := 9) (by kernel_rfl) K1)) (by rw [IntKind.wrap_i64]; omega)) K2
      · refine asks_mk fun a W hS hh hd => ⟨wanted_yes rfl, ?_⟩
        exact giv_run (run_mv rfl (eval_tmp (hh 0 _ rfl (hF0.at 0 rfl)))) K3
      · refine asks_mk fun a W hS hh hd => ⟨wanted_yes rfl, ?_⟩
        exact giv_run (run_len rfl (eval_tmp (hd.val (j := 3) (s := 11) (by kernel_rfl) K3)) rfl Try.underlying9) K4
      · refine asks_mk fun a W hS hh hd => ⟨wanted_yes rfl, ?_⟩
        exact giv_run (run_lss rfl (eval_tmp (hd.val (j := 2) (s := 10) (by kernel_rfl) K2)) (eval_tmp (hd.val (j := 4) (s := 12) (by kernel_rfl) K4)) (decide_eq_true (by omega))) K5
      · refine asks_mk fun a W hS hh hd => ⟨wanted_yes rfl, ?_⟩
        exact giv_run (run_mv rfl (eval_tmp (hd.val (j := 5) (s := 13) (by kernel_rfl) K5))) K6
      · refine asks_mk fun a W hS hh hd => ⟨wanted_of (j := 6) (s := 14) (by kernel_rfl) (hd.val (j := 6) (s := 14) (by kernel_rfl) K6), ?_⟩
        exact giv_run (run_mv rfl (eval_tmp (hh 7 _ rfl (hF0.at 7 rfl)))) K7
      · refine asks_mk fun a W hS hh hd => ⟨wanted_of (j := 6) (s := 14) (by kernel_rfl) (hd.val (j := 6) (s := 14) (by kernel_rfl) K6), ?_⟩
        exact giv_run (run_lss rfl (eval_tmp (hd.val (j := 7) (s := 15) (by kernel_rfl) K7)) rfl (decide_eq_false (by omega))) K8
      · refine asks_mk fun a W hS hh hd => ⟨wanted_yes rfl, ?_⟩
        exact giv_run (run_pick rfl (eval_tmp (hd.val (j := 6) (s := 14) (by kernel_rfl) K6)) (eval_tmp (hd.val (j := 8) (s := 16) (by kernel_rfl) K8)) rfl) K9
      · refine asks_mk fun a W hS hh hd => ⟨wanted_yes rfl, ?_⟩
        exact giv_run (run_mv rfl (eval_tmp (hd.val (j := 9) (s := 17) (by kernel_rfl) K9))) K10
      · exact asks_skip fun a W hS hh hd => ⟨unwanted_of (j := 10) (s := 18) (want := true) (by kernel_rfl) (hd.val (j := 10) (s := 18) (by kernel_rfl) K10), show kT KL 11 undef W by unfold kT; rw [K11]; rfl⟩
      · exact asks_skip fun a W hS hh hd => ⟨unwanted_of (j := 10) (s := 18) (want := true) (by kernel_rfl) (hd.val (j := 10) (s := 18) (by kernel_rfl) K10), show kT KL 12 undef W by unfold kT; rw [K12]; rfl⟩
      · exact asks_skip fun a W hS hh hd => ⟨unwanted_of (j := 10) (s := 18) (want := true) (by kernel_rfl) (hd.val (j := 10) (s := 18) (by kernel_rfl) K10), show kT KL 13 undef W by unfold kT; rw [K13]; rfl⟩
      · exact asks_skip fun a W hS hh hd => ⟨unwanted_of (j := 10) (s := 18) (want := true) (by kernel_rfl) (hd.val (j := 10) (s := 18) (by kernel_rfl) K10), show kT KL 14 undef W by unfold kT; rw [K14]; rfl⟩
      · exact asks_skip fun a W hS hh hd => ⟨unwanted_of (j := 10) (s := 18) (want := true) (by kernel_rfl) (hd.val (j := 10) (s := 18) (by kernel_rfl) K10), show kT KL 15 undef W by unfold kT; rw [K15]; rfl⟩
      · exact asks_skip fun a W hS hh hd => ⟨unwanted_of (j := 10) (s := 18) (want := true) (by kernel_rfl) (hd.val (j := 10) (s := 18) (by kernel_rfl) K10), show kT KL 16 undef W by unfold kT; rw [K16]; rfl⟩
      · exact asks_skip fun a W hS hh hd => ⟨unwanted_of (j := 10) (s := 18) (want := true) (by kernel_rfl) (hd.val (j := 10) (s := 18) (by kernel_rfl) K10), show kT KL 17 undef W by unfold kT; rw [K17]; rfl⟩
      · exact asks_skip fun a W hS hh hd => ⟨unwanted_of (j := 10) (s := 18) (want := true) (by kernel_rfl) (hd.val (j := 10) (s := 18) (by kernel_rfl) K10), show kT KL 18 undef W by unfold kT; rw [K18]; rfl⟩
      · exact asks_skip fun a W hS hh hd => ⟨unwanted_of (j := 10) (s := 18) (want := true) (by kernel_rfl) (hd.val (j := 10) (s := 18) (by kernel_rfl) K10), show kT KL 19 undef W by unfold kT; rw [K19]; rfl⟩
      · exact asks_skip fun a W hS hh hd => ⟨unwanted_of (j := 10) (s := 18) (want := true) (by kernel_rfl) (hd.val (j := 10) (s := 18) (by kernel_rfl) K10), show kT KL 20 undef W by unfold kT; rw [K20]; rfl⟩
      · exact asks_skip fun a W hS hh hd => ⟨unwanted_of (j := 10) (s := 18) (want := true) (by kernel_rfl) (hd.val (j := 10) (s := 18) (by kernel_rfl) K10), show kT KL 21 undef W by unfold kT; rw [K21]; rfl⟩
      · exact asks_skip fun a W hS hh hd => ⟨unwanted_of (j := 10) (s := 18) (want := true) (by kernel_rfl) (hd.val (j := 10) (s := 18) (by kernel_rfl) K10), show kT KL 22 undef W by unfold kT; rw [K22]; rfl⟩
      · exact asks_skip fun a W hS hh hd => ⟨unwanted_of (j := 10) (s := 18) (want := true) (by kernel_rfl) (hd.val (j := 10) (s := 18) (by kernel_rfl) K10), show kT KL 23 undef W by unfold kT; rw [K23]; rfl⟩
      · refine asks_mk fun a W hS hh hd => ⟨wanted_yes rfl, ?_⟩
        exact giv_run (run_pick rfl (eval_tmp (hd.val (j := 10) (s := 18) (by kernel_rfl) K10)) (eval_tmp (hd.val (j := 23) (s := 31) (by kernel_rfl) K23)) rfl) K24
    · intro a1 w2 hb2 hK
      have e0 := hK.val (i := 0) (s := 8) (by kernel_rfl) K0
      have e1 := hK.val (i := 1) (s := 9) (by kernel_rfl) K1
      have e2 := hK.val (i := 2) (s := 10) (by kernel_rfl) K2
      have e3 := hK.val (i := 3) (s := 11) (by kernel_rfl) K3
      have e4 := hK.val (i := 4) (s := 12) (by kernel_rfl) K4
      have e5 := hK.val (i := 5) (s := 13) (by kernel_rfl) K5
      have e6 := hK.val (i := 6) (s := 14) (by kernel_rfl) K6
      have e7 := hK.val (i := 7) (s := 15) (by kernel_rfl) K7
      have e8 := hK.val (i := 8) (s := 16) (by kernel_rfl) K8
      have e9 := hK.val (i := 9) (s := 17) (by kernel_rfl) K9
      have e10 := hK.val (i := 10) (s := 18) (by kernel_rfl) K10
      have e11 := hK.val (i := 11) (s := 19) (by kernel_rfl) K11
      have e12 := hK.val (i := 12) (s := 20) (by kernel_rfl) K12
      have e13 := hK.val (i := 13) (s := 21) (by kernel_rfl) K13
      have e14 := hK.val (i := 14) (s := 22) (by kernel_rfl) K14
      have e15 := hK.val (i := 15) (s := 23) (by kernel_rfl) K15
      have e16 := hK.val (i := 16) (s := 24) (by kernel_rfl) K16
      have e17 := hK.val (i := 17) (s := 25) (by kernel_rfl) K17
      have e18 := hK.val (i := 18) (s := 26) (by kernel_rfl) K18
      have e19 := hK.val (i := 19) (s := 27) (by kernel_rfl) K19
      have e20 := hK.val (i := 20) (s := 28) (by kernel_rfl) K20
      have e21 := hK.val (i := 21) (s := 29) (by kernel_rfl) K21
      have e22 := hK.val (i := 22) (s := 30) (by kernel_rfl) K22
      have e23 := hK.val (i := 23) (s := 31) (by kernel_rfl) K23
      have e24 := hK.val (i := 24) (s := 32) (by kernel_rfl) K24
      have hF1 : Fr a1 36 [(0, (.string ⟨s.toArray⟩)), (1, (.int .i64 (p : Int))), (2, (.int .i64 (far : Int))), (7, (.int .i64 (n : Int))), (32, (.bool false))] := (hK.fr hF0 [(.int .i64 (p : Int)), (.int .i64 (n : Int)), (.int .i64 ((p + n : Nat) : Int)), (.string ⟨s.toArray⟩), (.int .i64 (s.length : Int)), (.bool true), (.bool true), (.int .i64 (n : Int)), (.bool false), (.bool false), (.bool false), undef, undef, undef, undef, undef, undef, undef, undef, undef, undef, undef, undef, undef, (.bool false)] ⟨e0, e1, e2, e3, e4, e5, e6, e7, e8, e9, e10, e11, e12, e13, e14, e15, e16, e17, e18, e19, e20, e21, e22, e23, e24, trivial⟩).sub ⟨rfl, rfl, rfl, rfl, rfl, trivial⟩
      have hM1 := hM0.grow hb2
      clear hK K0 e0 K1 e1 K2 e2 K3 e3 K4 e4 K5 e5 K6 e6 K7 e7 K8 e8 K9 e9 K10 e10 K11 e11 K12 e12 K13 e13 K14 e14 K15 e15 K16 e16 K17 e17 K18 e18 K19 e19 K20 e20 K21 e21 K22 e22 K23 e23 K24 e24
      clear hF0 hM0
      refine nx ?_
      refine wp_cond_false (hF1.ev 32 rfl) ?_
      refine wp_exit ?_
      refine nxExit ?_
      refine nxExit ?_
      refine bkHere ?_
      refine nx ?_
      refine wp_seq ?_
      refine wp_region_lit ?_
      refine sq (v := (.int .i64 (n : Int))) hF1 (wantedS rfl) (run_mv rfl (hF1.ev 7 rfl)) rfl (by decide) fun a2 hF2 => ?_
      refine sq (v := (.int .i64 (n : Int))) hF2 (wantedS rfl) (run_as rfl (hF2.ev 35 rfl)) rfl (by decide) fun a3 hF3 => ?_
      refine sqEnd ?_
      clear hF1 hF2
      refine nx ?_
      refine wp_ret ?_
      exact ret1 hF3 rfl rfl ⟨by rw [hres], hM1.below⟩
  by_cases h3 : (bt s (p + n)).toNat = (bt s (p - far + n)).toNat
  · have hg := bt_eq (l := s) (i := p + n) (j := p - far + n) (by omega) (by omega) h3
    refine wp_seq ?_
    refine wp_seq ?_
    obtain ⟨KL, hKL⟩ : ∃ KL, KL = [kval (.int .i64 (p : Int)), kval (.int .i64 (n : Int)), kval (.int .i64 ((p + n : Nat) : Int)), kval (.string ⟨s.toArray⟩), kval (.int .i64 (s.length : Int)), kval (.bool true), kval (.bool true), kval (.int .i64 (n : Int)), kval (.bool true), kval (.bool true), kval (.bool true), kval (.string ⟨s.toArray⟩), kval (.int .i64 (p : Int)), kval (.int .i64 (n : Int)), kval (.int .i64 ((p + n : Nat) : Int)), kval (.int .u8 ((bt s (p + n)).toNat : Int)), kval (.string ⟨s.toArray⟩), kval (.int .i64 (p : Int)), kval (.int .i64 (n : Int)), kval (.int .i64 ((p + n : Nat) : Int)), kval (.int .i64 (far : Int)), kval (.int .i64 ((p - far + n : Nat) : Int)), kval (.int .u8 ((bt s (p - far + n)).toNat : Int)), kval (.bool true), kval (.bool true)] := ⟨_, rfl⟩
    have K0 : KL.getD 0 kany = kval (.int .i64 (p : Int)) := by rw [hKL]; rfl
    have K1 : KL.getD 1 kany = kval (.int .i64 (n : Int)) := by rw [hKL]; rfl
    have K2 : KL.getD 2 kany = kval (.int .i64 ((p + n : Nat) : Int)) := by rw [hKL]; rfl
    have K3 : KL.getD 3 kany = kval (.string ⟨s.toArray⟩) := by rw [hKL]; rfl
    have K4 : KL.getD 4 kany = kval (.int .i64 (s.length : Int)) := by rw [hKL]; rfl
    have K5 : KL.getD 5 kany = kval (.bool true) := by rw [hKL]; rfl
    have K6 : KL.getD 6 kany = kval (.bool true) := by rw [hKL]; rfl
    have K7 : KL.getD 7 kany = kval (.int .i64 (n : Int)) := by rw [hKL]; rfl
    have K8 : KL.getD 8 kany = kval (.bool true) := by rw [hKL]; rfl
    have K9 : KL.getD 9 kany = kval (.bool true) := by rw [hKL]; rfl
    have K10 : KL.getD 10 kany = kval (.bool true) := by rw [hKL]; rfl
    have K11 : KL.getD 11 kany = kval (.string ⟨s.toArray⟩) := by rw [hKL]; rfl
    have K12 : KL.getD 12 kany = kval (.int .i64 (p : Int)) := by rw [hKL]; rfl
    have K13 : KL.getD 13 kany = kval (.int .i64 (n : Int)) := by rw [hKL]; rfl
    have K14 : KL.getD 14 kany = kval (.int .i64 ((p + n : Nat) : Int)) := by rw [hKL]; rfl
    have K15 : KL.getD 15 kany = kval (.int .u8 ((bt s (p + n)).toNat : Int)) := by rw [hKL]; rfl
    have K16 : KL.getD 16 kany = kval (.string ⟨s.toArray⟩) := by rw [hKL]; rfl
    have K17 : KL.getD 17 kany = kval (.int .i64 (p : Int)) := by rw [hKL]; rfl
    have K18 : KL.getD 18 kany = kval (.int .i64 (n : Int)) := by rw [hKL]; rfl
    have K19 : KL.getD 19 kany = kval (.int .i64 ((p + n : Nat) : Int)) := by rw [hKL]; rfl
    have K20 : KL.getD 20 kany = kval (.int .i64 (far : Int)) := by rw [hKL]; rfl
    have K21 : KL.getD 21 kany = kval (.int .i64 ((p - far + n : Nat) : Int)) := by rw [hKL]; rfl
    have K22 : KL.getD 22 kany = kval (.int .u8 ((bt s (p - far + n)).toNat : Int)) := by rw [hKL]; rfl
    have K23 : KL.getD 23 kany = kval (.bool true) := by rw [hKL]; rfl
    have K24 : KL.getD 24 kany = kval (.bool true) := by rw [hKL]; rfl
    clear hKL
    refine wp_region_kd 36 (by kernel_rfl) (by kernel_rfl) (by kernel_rfl) hF0.size KL ?_ ?_
    · refine ⟨?_, ?_, ?_, ?_, ?_, ?_, ?_, ?_, ?_, ?_, ?_, ?_, ?_, ?_, ?_, ?_, ?_, ?_, ?_, ?_, ?_, ?_, ?_, ?_, ?_, trivial⟩
      · refine asks_mk fun a W hS hh hd => ⟨wanted_yes rfl, ?_⟩
        exact giv_run (run_mv rfl (eval_tmp (hh 1 _ rfl (hF0.at 1 rfl)))) K0
      · refine asks_mk fun a W hS hh hd => ⟨wanted_yes rfl, ?_⟩
        exact giv_run (run_mv rfl (eval_tmp (hh 7 _ rfl (hF0.at 7 rfl)))) K1
      · refine asks_mk fun a W hS hh hd => ⟨wanted_yes rfl, ?_⟩
        exact giv_run (run_add (r := ((p + n : Nat) : Int)) rfl (eval_tmp (hd.val (j := 0) (s := 8) (by kernel_rfl) K0)) (eval_tmp (hd.val (j := 1) (s := 9) (by kernel_rfl) K1)) (by rw [IntKind.wrap_i64]; omega)) K2
      · refine asks_mk fun a W hS hh hd => ⟨wanted_yes rfl, ?_⟩
        exact giv_run (run_mv rfl (eval_tmp (hh 0 _ rfl (hF0.at 0 rfl)))) K3
      · refine asks_mk fun a W hS hh hd => ⟨wanted_yes rfl, ?_⟩
        exact giv_run (run_len rfl (eval_tmp (hd.val (j := 3) (s := 11) (by kernel_rfl) K3)) rfl Try.underlying9) K4
      · refine asks_mk fun a W hS hh hd => ⟨wanted_yes rfl, ?_⟩
        exact giv_run (run_lss rfl (eval_tmp (hd.val (j := 2) (s := 10) (by kernel_rfl) K2)) (eval_tmp (hd.val (j := 4) (s := 12) (by kernel_rfl) K4)) (decide_eq_true (by omega))) K5
      · refine asks_mk fun a W hS hh hd => ⟨wanted_yes rfl, ?_⟩
        exact giv_run (run_mv rfl (eval_tmp (hd.val (j := 5) (s := 13) (by kernel_rfl) K5))) K6
      · refine asks_mk fun a W hS hh hd => ⟨wanted_of (j := 6) (s := 14) (by kernel_rfl) (hd.val (j := 6) (s := 14) (by kernel_rfl) K6), ?_⟩
        exact giv_run (run_mv rfl (eval_tmp (hh 7 _ rfl (hF0.at 7 rfl)))) K7
      · refine asks_mk fun a W hS hh hd => ⟨wanted_of (j := 6) (s := 14) (by kernel_rfl) (hd.val (j := 6) (s := 14) (by kernel_rfl) K6), ?_⟩
        exact giv_run (run_lss rfl (eval_tmp (hd.val (j := 7) (s := 15) (by kernel_rfl) K7)) rfl (decide_eq_true (by omega))) K8
      · refine asks_mk fun a W hS hh hd => ⟨wanted_yes rfl, ?_⟩
        exact giv_run (run_pick rfl (eval_tmp (hd.val (j := 6) (s := 14) (by kernel_rfl) K6)) (eval_tmp (hd.val (j := 8) (s := 16) (by kernel_rfl) K8)) rfl) K9
      · refine asks_mk fun a W hS hh hd => ⟨wanted_yes rfl, ?_⟩
        exact giv_run (run_mv rfl (eval_tmp (hd.val (j := 9) (s := 17) (by kernel_rfl) K9))) K10
      · refine asks_mk fun a W hS hh hd => ⟨wanted_of (j := 10) (s := 18) (by kernel_rfl) (hd.val (j := 10) (s := 18) (by kernel_rfl) K10), ?_⟩
        exact giv_run (run_mv rfl (eval_tmp (hh 0 _ rfl (hF0.at 0 rfl)))) K11
      · refine asks_mk fun a W hS hh hd => ⟨wanted_of (j := 10) (s := 18) (by kernel_rfl) (hd.val (j := 10) (s := 18) (by kernel_rfl) K10), ?_⟩
        exact giv_run (run_mv rfl (eval_tmp (hh 1 _ rfl (hF0.at 1 rfl)))) K12
      · refine asks_mk fun a W hS hh hd => ⟨wanted_of (j := 10) (s := 18) (by kernel_rfl) (hd.val (j := 10) (s := 18) (by kernel_rfl) K10), ?_⟩
        exact giv_run (run_mv rfl (eval_tmp (hh 7 _ rfl (hF0.at 7 rfl)))) K13
      · refine asks_mk fun a W hS hh hd => ⟨wanted_of (j := 10) (s := 18) (by kernel_rfl) (hd.val (j := 10) (s := 18) (by kernel_rfl) K10), ?_⟩
        exact giv_run (run_add (r := ((p + n : Nat) : Int)) rfl (eval_tmp (hd.val (j := 12) (s := 20) (by kernel_rfl) K12)) (eval_tmp (hd.val (j := 13) (s := 21) (by kernel_rfl) K13)) (by rw [IntKind.wrap_i64]; omega)) K14
      · refine asks_mk fun a W hS hh hd => ⟨wanted_of (j := 10) (s := 18) (by kernel_rfl) (hd.val (j := 10) (s := 18) (by kernel_rfl) K10), ?_⟩
        exact giv_run (run_sAt (n := (p + n)) rfl (eval_tmp (hd.val (j := 11) (s := 19) (by kernel_rfl) K11)) (eval_tmp (hd.val (j := 14) (s := 22) (by kernel_rfl) K14)) Try.underlying9 rfl (by omega)) K15
      · refine asks_mk fun a W hS hh hd => ⟨wanted_of (j := 10) (s := 18) (by kernel_rfl) (hd.val (j := 10) (s := 18) (by kernel_rfl) K10), ?_⟩
        exact giv_run (run_mv rfl (eval_tmp (hh 0 _ rfl (hF0.at 0 rfl)))) K16
      · refine asks_mk fun a W hS hh hd => ⟨wanted_of (j := 10) (s := 18) (by kernel_rfl) (hd.val (j := 10) (s := 18) (by kernel_rfl) K10), ?_⟩
        exact giv_run (run_mv rfl (eval_tmp (hh 1 _ rfl (hF0.at 1 rfl)))) K17
      · refine asks_mk fun a W hS hh hd => ⟨wanted_of (j := 10) (s := 18) (by kernel_rfl) (hd.val (j := 10) (s := 18) (by kernel_rfl) K10), ?_⟩
        exact giv_run (run_mv rfl (eval_tmp (hh 7 _ rfl (hF0.at 7 rfl)))) K18
      · refine asks_mk fun a W hS hh hd => ⟨wanted_of (j := 10) (s := 18) (by kernel_rfl) (hd.val (j := 10) (s := 18) (by kernel_rfl) K10), ?_⟩
        exact giv_run (run_add (r := ((p + n : Nat) : Int)) rfl (eval_tmp (hd.val (j := 17) (s := 25) (by kernel_rfl) K17)) (eval_tmp (hd.val (j := 18) (s := 26) (by kernel_rfl) K18)) (by rw [IntKind.wrap_i64]; omega)) K19
      · refine asks_mk fun a W hS hh hd => ⟨wanted_of (j := 10) (s := 18) (by kernel_rfl) (hd.val (j := 10) (s := 18) (by kernel_rfl) K10), ?_⟩
        exact giv_run (run_mv rfl (eval_tmp (hh 2 _ rfl (hF0.at 2 rfl)))) K20
      · refine asks_mk fun a W hS hh hd => ⟨wanted_of (j := 10) (s := 18) (by kernel_rfl) (hd.val (j := 10) (s := 18) (by kernel_rfl) K10), ?_⟩
        exact giv_run (run_sub (r := ((p - far + n : Nat) : Int)) rfl (eval_tmp (hd.val (j := 19) (s := 27) (by kernel_rfl) K19)) (eval_tmp (hd.val (j := 20) (s := 28) (by kernel_rfl) K20)) (by rw [IntKind.wrap_i64]; omega)) K21
      · refine asks_mk fun a W hS hh hd => ⟨wanted_of (j := 10) (s := 18) (by kernel_rfl) (hd.val (j := 10) (s := 18) (by kernel_rfl) K10), ?_⟩
        exact giv_run (run_sAt (n := (p - far + n)) rfl (eval_tmp (hd.val (j := 16) (s := 24) (by kernel_rfl) K16)) (eval_tmp (hd.val (j := 21) (s := 29) (by kernel_rfl) K21)) Try.underlying9 rfl (by omega)) K22
      · refine asks_mk fun a W hS hh hd => ⟨wanted_of (j := 10) (s := 18) (by kernel_rfl) (hd.val (j := 10) (s := 18) (by kernel_rfl) K10), ?_⟩
        exact giv_run (run_eqi rfl (eval_tmp (hd.val (j := 15) (s := 23) (by kernel_rfl) K15)) (eval_tmp (hd.val (j := 22) (s := 30) (by kernel_rfl) K22)) (beq_iff_eq.2 (by omega))) K23
      · refine asks_mk fun a W hS hh hd => ⟨wanted_yes rfl, ?_⟩
        exact giv_run (run_pick rfl (eval_tmp (hd.val (j := 10) (s := 18) (by kernel_rfl) K10)) (eval_tmp (hd.val (j := 23) (s := 31) (by kernel_rfl) K23)) rfl) K24
    · intro a1 w2 hb2 hK
      have e0 := hK.val (i := 0) (s := 8) (by kernel_rfl) K0
      have e1 := hK.val (i := 1) (s := 9) (by kernel_rfl) K1
      have e2 := hK.val (i := 2) (s := 10) (by kernel_rfl) K2
      have e3 := hK.val (i := 3) (s := 11) (by kernel_rfl) K3
      have e4 := hK.val (i := 4) (s := 12) (by kernel_rfl) K4
      have e5 := hK.val (i := 5) (s := 13) (by kernel_rfl) K5
      have e6 := hK.val (i := 6) (s := 14) (by kernel_rfl) K6
      have e7 := hK.val (i := 7) (s := 15) (by kernel_rfl) K7
      have e8 := hK.val (i := 8) (s := 16) (by kernel_rfl) K8
      have e9 := hK.val (i := 9) (s := 17) (by kernel_rfl) K9
      have e10 := hK.val (i := 10) (s := 18) (by kernel_rfl) K10
      have e11 := hK.val (i := 11) (s := 19) (by kernel_rfl) K11
      have e12 := hK.val (i := 12) (s := 20) (by kernel_rfl) K12
      have e13 := hK.val (i := 13) (s := 21) (by kernel_rfl) K13
      have e14 := hK.val (i := 14) (s := 22) (by kernel_rfl) K14
      have e15 := hK.val (i := 15) (s := 23) (by kernel_rfl) K15
      have e16 := hK.val (i := 16) (s := 24) (by kernel_rfl) K16
      have e17 := hK.val (i := 17) (s := 25) (by kernel_rfl) K17
      have e18 := hK.val (i := 18) (s := 26) (by kernel_rfl) K18
      have e19 := hK.val (i := 19) (s := 27) (by kernel_rfl) K19
      have e20 := hK.val (i := 20) (s := 28) (by kernel_rfl) K20
      have e21 := hK.val (i := 21) (s := 29) (by kernel_rfl) K21
      have e22 := hK.val (i := 22) (s := 30) (by kernel_rfl) K22
      have e23 := hK.val (i := 23) (s := 31) (by kernel_rfl) K23
      have e24 := hK.val (i := 24) (s := 32) (by kernel_rfl) K24
      have hF1 : Fr a1 36 [(0, (.string ⟨s.toArray⟩)), (1, (.int .i64 (p : Int))), (2, (.int .i64 (far : Int))), (7, (.int .i64 (n : Int))), (32, (.bool true))] := (hK.fr hF0 [(.int .i64 (p : Int)), (.int .i64 (n : Int)), (.int .i64 ((p + n : Nat) : Int)), (.string ⟨s.toArray⟩), (.int .i64 (s.length : Int)), (.bool true), (.bool true), (.int .i64 (n : Int)), (.bool true), (.bool true), (.bool true), (.string ⟨s.toArray⟩), (.int .i64 (p : Int)), (.int .i64 (n : Int)), (.int .i64 ((p + n : Nat) : Int)), (.int .u8 ((bt s (p + n)).toNat : Int)), (.string ⟨s.toArray⟩), (.int .i64 (p : Int)), (.int .i64 (n : Int)), (.int .i64 ((p + n : Nat) : Int)), (.int .i64 (far : Int)), (.int .i64 ((p - far + n : Nat) : Int)), (.int .u8 ((bt s (p - far + n)).toNat : Int)), (.bool true), (.bool true)] ⟨e0, e1, e2, e3, e4, e5, e6, e7, e8, e9, e10, e11, e12, e13, e14, e15, e16, e17, e18, e19, e20, e21, e22, e23, e24, trivial⟩).sub ⟨rfl, rfl, rfl, rfl, rfl, trivial⟩
      have hM1 := hM0.grow hb2
      clear hK K0 e0 K1 e1 K2 e2 K3 e3 K4 e4 K5 e5 K6 e6 K7 e7 K8 e8 K9 e9 K10 e10 K11 e11 K12 e12 K13 e13 K14 e14 K15 e15 K16 e16 K17 e17 K18 e18 K19 e19 K20 e20 K21 e21 K22 e22 K23 e23 K24 e24
      clear hF0 hM0
      refine nx ?_
      refine wp_cond_true (hF1.ev 32 rfl) ?_
      refine wp_skip ?_
      refine nx ?_
      refine wp_block ?_
      refine wp_region_lit ?_
      refine sq (v := (.int .i64 (n : Int))) hF1 (wantedS rfl) (run_mv rfl (hF1.ev 7 rfl)) rfl (by decide) fun a2 hF2 => ?_
      refine sq (v := (.int .i64 ((n + 1 : Nat) : Int))) hF2 (wantedS rfl) (run_add (r := ((n + 1 : Nat) : Int)) rfl (hF2.ev 33 rfl) rfl (by rw [IntKind.wrap_i64]; omega)) rfl (by decide) fun a3 hF3 => ?_
      refine sq (v := (.int .i64 ((n + 1 : Nat) : Int))) hF3 (wantedS rfl) (run_as rfl (hF3.ev 34 rfl)) rfl (by decide) fun a4 hF4 => ?_
      refine sqEnd ?_
      clear hF1 hF2 hF3
      refine bkEnd ?_
      refine nx ?_
      refine ⟨_, by omega, n + 1, by omega, rfl, fun i hi => ?_, hF4.sub ⟨rfl, rfl, rfl, rfl, trivial⟩, hM1⟩
      rcases Nat.lt_or_ge i n with h | h
      · exact hal i h
      · obtain rfl : i = n := by omega
        exact hg
  · have hres : sameS s p far = n := sameS_eq hn hal (.inr (bt_ne (by omega) (by omega) h3))
    refine wp_seq ?_
    refine wp_seq ?_
    obtain ⟨KL, hKL⟩ : ∃ KL, KL = [kval (.int .i64 (p : Int)), kval (.int .i64 (n : Int)), kval (.int .i64 ((p + n : Nat) : Int)), kval (.string ⟨s.toArray⟩), kval (.int .i64 (s.length : Int)), kval (.bool true), kval (.bool true), kval (.int .i64 (n : Int)), kval (.bool true), kval (.bool true), kval (.bool true), kval (.string ⟨s.toArray⟩), kval (.int .i64 (p : Int)), kval (.int .i64 (n : Int)), kval (.int .i64 ((p + n : Nat) : Int)), kval (.int .u8 ((bt s (p + n)).toNat : Int)), kval (.string ⟨s.toArray⟩), kval (.int .i64 (p : Int)), kval (.int .i64 (n : Int)), kval (.int .i64 ((p + n : Nat) : Int)), kval (.int .i64 (far : Int)), kval (.int .i64 ((p - far + n : Nat) : Int)), kval (.int .u8 ((bt s (p - far + n)).toNat : Int)), kval (.bool false), kval (.bool false)] := ⟨_, rfl⟩
    have K0 : KL.getD 0 kany = kval (.int .i64 (p : Int)) := by rw [hKL]; rfl
    have K1 : KL.getD 1 kany = kval (.int .i64 (n : Int)) := by rw [hKL]; rfl
    have K2 : KL.getD 2 kany = kval (.int .i64 ((p + n : Nat) : Int)) := by rw [hKL]; rfl
    have K3 : KL.getD 3 kany = kval (.string ⟨s.toArray⟩) := by rw [hKL]; rfl
    have K4 : KL.getD 4 kany = kval (.int .i64 (s.length : Int)) := by rw [hKL]; rfl
    have K5 : KL.getD 5 kany = kval (.bool true) := by rw [hKL]; rfl
    have K6 : KL.getD 6 kany = kval (.bool true) := by rw [hKL]; rfl
    have K7 : KL.getD 7 kany = kval (.int .i64 (n : Int)) := by rw [hKL]; rfl
    have K8 : KL.getD 8 kany = kval (.bool true) := by rw [hKL]; rfl
    have K9 : KL.getD 9 kany = kval (.bool true) := by rw [hKL]; rfl
    have K10 : KL.getD 10 kany = kval (.bool true) := by rw [hKL]; rfl
    have K11 : KL.getD 11 kany = kval (.string ⟨s.toArray⟩) := by rw [hKL]; rfl
    have K12 : KL.getD 12 kany = kval (.int .i64 (p : Int)) := by rw [hKL]; rfl
    have K13 : KL.getD 13 kany = kval (.int .i64 (n : Int)) := by rw [hKL]; rfl
    have K14 : KL.getD 14 kany = kval (.int .i64 ((p + n : Nat) : Int)) := by rw [hKL]; rfl
    have K15 : KL.getD 15 kany = kval (.int .u8 ((bt s (p + n)).toNat : Int)) := by rw [hKL]; rfl
    have K16 : KL.getD 16 kany = kval (.string ⟨s.toArray⟩) := by rw [hKL]; rfl
    have K17 : KL.getD 17 kany = kval (.int .i64 (p : Int)) := by rw [hKL]; rfl
    have K18 : KL.getD 18 kany = kval (.int .i64 (n : Int)) := by rw [hKL]; rfl
    have K19 : KL.getD 19 kany = kval (.int .i64 ((p + n : Nat) : Int)) := by rw [hKL]; rfl
    have K20 : KL.getD 20 kany = kval (.int .i64 (far : Int)) := by rw [hKL]; rfl
    have K21 : KL.getD 21 kany = kval (.int .i64 ((p - far + n : Nat) : Int)) := by rw [hKL]; rfl
    have K22 : KL.getD 22 kany = kval (.int .u8 ((bt s (p - far + n)).toNat : Int)) := by rw [hKL]; rfl
    have K23 : KL.getD 23 kany = kval (.bool false) := by rw [hKL]; rfl
    have K24 : KL.getD 24 kany = kval (.bool false) := by rw [hKL]; rfl
    clear hKL
    refine wp_region_kd 36 (by kernel_rfl) (by kernel_rfl) (by kernel_rfl) hF0.size KL ?_ ?_
    · refine ⟨?_, ?_, ?_, ?_, ?_, ?_, ?_, ?_, ?_, ?_, ?_, ?_, ?_, ?_, ?_, ?_, ?_, ?_, ?_, ?_, ?_, ?_, ?_, ?_, ?_, trivial⟩
      · refine asks_mk fun a W hS hh hd => ⟨wanted_yes rfl, ?_⟩
        exact giv_run (run_mv rfl (eval_tmp (hh 1 _ rfl (hF0.at 1 rfl)))) K0
      · refine asks_mk fun a W hS hh hd => ⟨wanted_yes rfl, ?_⟩
        exact giv_run (run_mv rfl (eval_tmp (hh 7 _ rfl (hF0.at 7 rfl)))) K1
      · refine asks_mk fun a W hS hh hd => ⟨wanted_yes rfl, ?_⟩
        exact giv_run (run_add (r := ((p + n : Nat) : Int)) rfl (eval_tmp (hd.val (j := 0) (s := 8) (by kernel_rfl) K0)) (eval_tmp (hd.val (j := 1) (s := 9) (by kernel_rfl) K1)) (by rw [IntKind.wrap_i64]; omega)) K2
      · refine asks_mk fun a W hS hh hd => ⟨wanted_yes rfl, ?_⟩
        exact giv_run (run_mv rfl (eval_tmp (hh 0 _ rfl (hF0.at 0 rfl)))) K3
      · refine asks_mk fun a W hS hh hd => ⟨wanted_yes rfl, ?_⟩
        exact giv_run (run_len rfl (eval_tmp (hd.val (j := 3) (s := 11) (by kernel_rfl) K3)) rfl Try.underlying9) K4
      · refine asks_mk fun a W hS hh hd => ⟨wanted_yes rfl, ?_⟩
        exact giv_run (run_lss rfl (eval_tmp (hd.val (j := 2) (s := 10) (by kernel_rfl) K2)) (eval_tmp (hd.val (j := 4) (s := 12) (by kernel_rfl) K4)) (decide_eq_true (by omega))) K5
      · refine asks_mk fun a W hS hh hd => ⟨wanted_yes rfl, ?_⟩
        exact giv_run (run_mv rfl (eval_tmp (hd.val (j := 5) (s := 13) (by kernel_rfl) K5))) K6
      · refine asks_mk fun a W hS hh hd => ⟨wanted_of (j := 6) (s := 14) (by kernel_rfl) (hd.val (j := 6) (s := 14) (by kernel_rfl) K6), ?_⟩
        exact giv_run (run_mv rfl (eval_tmp (hh 7 _ rfl (hF0.at 7 rfl)))) K7
      · refine asks_mk fun a W hS hh hd => ⟨wanted_of (j := 6) (s := 14) (by kernel_rfl) (hd.val (j := 6) (s := 14) (by kernel_rfl) K6), ?_⟩
        exact giv_run (run_lss rfl (eval_tmp (hd.val (j := 7) (s := 15) (by kernel_rfl) K7)) rfl (decide_eq_true (by omega))) K8
      · refine asks_mk fun a W hS hh hd => ⟨wanted_yes rfl, ?_⟩
        exact giv_run (run_pick rfl (eval_tmp (hd.val (j := 6) (s := 14) (by kernel_rfl) K6)) (eval_tmp (hd.val (j := 8) (s := 16) (by kernel_rfl) K8)) rfl) K9
      · refine asks_mk fun a W hS hh hd => ⟨wanted_yes rfl, ?_⟩
        exact giv_run (run_mv rfl (eval_tmp (hd.val (j := 9) (s := 17) (by kernel_rfl) K9))) K10
      · refine asks_mk fun a W hS hh hd => ⟨wanted_of (j := 10) (s := 18) (by kernel_rfl) (hd.val (j := 10) (s := 18) (by kernel_rfl) K10), ?_⟩
        exact giv_run (run_mv rfl (eval_tmp (hh 0 _ rfl (hF0.at 0 rfl)))) K11
      · refine asks_mk fun a W hS hh hd => ⟨wanted_of (j := 10) (s := 18) (by kernel_rfl) (hd.val (j := 10) (s := 18) (by kernel_rfl) K10), ?_⟩
        exact giv_run (run_mv rfl (eval_tmp (hh 1 _ rfl (hF0.at 1 rfl)))) K12
      · refine asks_mk fun a W hS hh hd => ⟨wanted_of (j := 10) (s := 18) (by kernel_rfl) (hd.val (j := 10) (s := 18) (by kernel_rfl) K10), ?_⟩
        exact giv_run (run_mv rfl (eval_tmp (hh 7 _ rfl (hF0.at 7 rfl)))) K13
      · refine asks_mk fun a W hS hh hd => ⟨wanted_of (j := 10) (s := 18) (by kernel_rfl) (hd.val (j := 10) (s := 18) (by kernel_rfl) K10), ?_⟩
        exact giv_run (run_add (r := ((p + n : Nat) : Int)) rfl (eval_tmp (hd.val (j := 12) (s := 20) (by kernel_rfl) K12)) (eval_tmp (hd.val (j := 13) (s := 21) (by kernel_rfl) K13)) (by rw [IntKind.wrap_i64]; omega)) K14
      · refine asks_mk fun a W hS hh hd => ⟨wanted_of (j := 10) (s := 18) (by kernel_rfl) (hd.val (j := 10) (s := 18) (by kernel_rfl) K10), ?_⟩
        exact giv_run (run_sAt (n := (p + n)) rfl (eval_tmp (hd.val (j := 11) (s := 19) (by kernel_rfl) K11)) (eval_tmp (hd.val (j := 14) (s := 22) (by kernel_rfl) K14)) Try.underlying9 rfl (by omega)) K15
      · refine asks_mk fun a W hS hh hd => ⟨wanted_of (j := 10) (s := 18) (by kernel_rfl) (hd.val (j := 10) (s := 18) (by kernel_rfl) K10), ?_⟩
        exact giv_run (run_mv rfl (eval_tmp (hh 0 _ rfl (hF0.at 0 rfl)))) K16
      · refine asks_mk fun a W hS hh hd => ⟨wanted_of (j := 10) (s := 18) (by kernel_rfl) (hd.val (j := 10) (s := 18) (by kernel_rfl) K10), ?_⟩
        exact giv_run (run_mv rfl (eval_tmp (hh 1 _ rfl (hF0.at 1 rfl)))) K17
      · refine asks_mk fun a W hS hh hd => ⟨wanted_of (j := 10) (s := 18) (by kernel_rfl) (hd.val (j := 10) (s := 18) (by kernel_rfl) K10), ?_⟩
        exact giv_run (run_mv rfl (eval_tmp (hh 7 _ rfl (hF0.at 7 rfl)))) K18
      · refine asks_mk fun a W hS hh hd => ⟨wanted_of (j := 10) (s := 18) (by kernel_rfl) (hd.val (j := 10) (s := 18) (by kernel_rfl) K10), ?_⟩
        exact giv_run (run_add (r := ((p + n : Nat) : Int)) rfl (eval_tmp (hd.val (j := 17) (s := 25) (by kernel_rfl) K17)) (eval_tmp (hd.val (j := 18) (s := 26) (by kernel_rfl) K18)) (by rw [IntKind.wrap_i64]; omega)) K19
      · refine asks_mk fun a W hS hh hd => ⟨wanted_of (j := 10) (s := 18) (by kernel_rfl) (hd.val (j := 10) (s := 18) (by kernel_rfl) K10), ?_⟩
        exact giv_run (run_mv rfl (eval_tmp (hh 2 _ rfl (hF0.at 2 rfl)))) K20
      · refine asks_mk fun a W hS hh hd => ⟨wanted_of (j := 10) (s := 18) (by kernel_rfl) (hd.val (j := 10) (s := 18) (by kernel_rfl) K10), ?_⟩
        exact giv_run (run_sub (r := ((p - far + n : Nat) : Int)) rfl (eval_tmp (hd.val (j := 19) (s := 27) (by kernel_rfl) K19)) (eval_tmp (hd.val (j := 20) (s := 28) (by kernel_rfl) K20)) (by rw [IntKind.wrap_i64]; omega)) K21
      · refine asks_mk fun a W hS hh hd => ⟨wanted_of (j := 10) (s := 18) (by kernel_rfl) (hd.val (j := 10) (s := 18) (by kernel_rfl) K10), ?_⟩
        exact giv_run (run_sAt (n := (p - far + n)) rfl (eval_tmp (hd.val (j := 16) (s := 24) (by kernel_rfl) K16)) (eval_tmp (hd.val (j := 21) (s := 29) (by kernel_rfl) K21)) Try.underlying9 rfl (by omega)) K22
      · refine asks_mk fun a W hS hh hd => ⟨wanted_of (j := 10) (s := 18) (by kernel_rfl) (hd.val (j := 10) (s := 18) (by kernel_rfl) K10), ?_⟩
        exact giv_run (run_eqi rfl (eval_tmp (hd.val (j := 15) (s := 23) (by kernel_rfl) K15)) (eval_tmp (hd.val (j := 22) (s := 30) (by kernel_rfl) K22)) (beq_eq_false_iff_ne.2 (by omega))) K23
      · refine asks_mk fun a W hS hh hd => ⟨wanted_yes rfl, ?_⟩
        exact giv_run (run_pick rfl (eval_tmp (hd.val (j := 10) (s := 18) (by kernel_rfl) K10)) (eval_tmp (hd.val (j := 23) (s := 31) (by kernel_rfl) K23)) rfl) K24
    · intro a1 w2 hb2 hK
      have e0 := hK.val (i := 0) (s := 8) (by kernel_rfl) K0
      have e1 := hK.val (i := 1) (s := 9) (by kernel_rfl) K1
      have e2 := hK.val (i := 2) (s := 10) (by kernel_rfl) K2
      have e3 := hK.val (i := 3) (s := 11) (by kernel_rfl) K3
      have e4 := hK.val (i := 4) (s := 12) (by kernel_rfl) K4
      have e5 := hK.val (i := 5) (s := 13) (by kernel_rfl) K5
      have e6 := hK.val (i := 6) (s := 14) (by kernel_rfl) K6
      have e7 := hK.val (i := 7) (s := 15) (by kernel_rfl) K7
      have e8 := hK.val (i := 8) (s := 16) (by kernel_rfl) K8
      have e9 := hK.val (i := 9) (s := 17) (by kernel_rfl) K9
      have e10 := hK.val (i := 10) (s := 18) (by kernel_rfl) K10
      have e11 := hK.val (i := 11) (s := 19) (by kernel_rfl) K11
      have e12 := hK.val (i := 12) (s := 20) (by kernel_rfl) K12
      have e13 := hK.val (i := 13) (s := 21) (by kernel_rfl) K13
      have e14 := hK.val (i := 14) (s := 22) (by kernel_rfl) K14
      have e15 := hK.val (i := 15) (s := 23) (by kernel_rfl) K15
      have e16 := hK.val (i := 16) (s := 24) (by kernel_rfl) K16
      have e17 := hK.val (i := 17) (s := 25) (by kernel_rfl) K17
      have e18 := hK.val (i := 18) (s := 26) (by kernel_rfl) K18
      have e19 := hK.val (i := 19) (s := 27) (by kernel_rfl) K19
      have e20 := hK.val (i := 20) (s := 28) (by kernel_rfl) K20
      have e21 := hK.val (i := 21) (s := 29) (by kernel_rfl) K21
      have e22 := hK.val (i := 22) (s := 30) (by kernel_rfl) K22
      have e23 := hK.val (i := 23) (s := 31) (by kernel_rfl) K23
      have e24 := hK.val (i := 24) (s := 32) (by kernel_rfl) K24
      have hF1 : Fr a1 36 [(0, (.string ⟨s.toArray⟩)), (1, (.int .i64 (p : Int))), (2, (.int .i64 (far : Int))), (7, (.int .i64 (n : Int))), (32, (.bool false))] := (hK.fr hF0 [(.int .i64 (p : Int)), (.int .i64 (n : Int)), (.int .i64 ((p + n : Nat) : Int)), (.string ⟨s.toArray⟩), (.int .i64 (s.length : Int)), (.bool true), (.bool true), (.int .i64 (n : Int)), (.bool true), (.bool true), (.bool true), (.string ⟨s.toArray⟩), (.int .i64 (p : Int)), (.int .i64 (n : Int)), (.int .i64 ((p + n : Nat) : Int)), (.int .u8 ((bt s (p + n)).toNat : Int)), (.string ⟨s.toArray⟩), (.int .i64 (p : Int)), (.int .i64 (n : Int)), (.int .i64 ((p + n : Nat) : Int)), (.int .i64 (far : Int)), (.int .i64 ((p - far + n : Nat) : Int)), (.int .u8 ((bt s (p - far + n)).toNat : Int)), (.bool false), (.bool false)] ⟨e0, e1, e2, e3, e4, e5, e6, e7, e8, e9, e10, e11, e12, e13, e14, e15, e16, e17, e18, e19, e20, e21, e22, e23, e24, trivial⟩).sub ⟨rfl, rfl, rfl, rfl, rfl, trivial⟩
      have hM1 := hM0.grow hb2
      clear hK K0 e0 K1 e1 K2 e2 K3 e3 K4 e4 K5 e5 K6 e6 K7 e7 K8 e8 K9 e9 K10 e10 K11 e11 K12 e12 K13 e13 K14 e14 K15 e15 K16 e16 K17 e17 K18 e18 K19 e19 K20 e20 K21 e21 K22 e22 K23 e23 K24 e24
      clear hF0 hM0
      refine nx ?_
      refine wp_cond_false (hF1.ev 32 rfl) ?_
      refine wp_exit ?_
      refine nxExit ?_
      refine nxExit ?_
      refine bkHere ?_
      refine nx ?_
      refine wp_seq ?_
      refine wp_region_lit ?_
      refine sq (v := (.int .i64 (n : Int))) hF1 (wantedS rfl) (run_mv rfl (hF1.ev 7 rfl)) rfl (by decide) fun a2 hF2 => ?_
      refine sq (v := (.int .i64 (n : Int))) hF2 (wantedS rfl) (run_as rfl (hF2.ev 35 rfl)) rfl (by decide) fun a3 hF3 => ?_
      refine sqEnd ?_
      clear hF1 hF2
      refine nx ?_
      refine wp_ret ?_
      exact ret1 hF3 rfl rfl ⟨by rw [hres], hM1.below⟩
set_option maxRecDepth 100000 in
set_option maxHeartbeats 1000000 in
theorem rbest_any (s : List UInt8) (p : Nat) (w : World) (hs : s.length ≤ 2 ^ 32) (hp : p ≤ s.length) : Calls Try.prog 17 #[.string ⟨s.toArray⟩, .int .i64 (p : Int)] w fun e w' => e = .returned (.tuple #[.int .i64 ((bestS s p).1 : Int), .int .i64 ((bestS s p).2 : Int)]) ∧ Below w.heap.size w w' := by
  refine walk_enter Try.func17 rfl rfl rfl fun a0 hF0 => ?_
  have hM0 := Mem.new w
  refine wp_seq ?_
  refine wp_region_lit ?_
  refine sq (v := (.int .i64 0)) hF0 (wantedS rfl) (run_as rfl rfl) rfl (by decide) fun a1 hF1 => ?_
  refine sq (v := (.int .i64 0)) hF1 (wantedS rfl) (run_as rfl rfl) rfl (by decide) fun a2 hF2 => ?_
  refine sqEnd ?_
  clear hF0 hF1
  refine nx ?_
  refine wp_seq ?_
  refine wp_region_lit ?_
  refine sq (v := (.int .i64 0)) hF2 (wantedS rfl) (run_as rfl rfl) rfl (by decide) fun a3 hF3 => ?_
  refine sq (v := (.int .i64 0)) hF3 (wantedS rfl) (run_as rfl rfl) rfl (by decide) fun a4 hF4 => ?_
  refine sqEnd ?_
  clear hF2 hF3
  refine nx ?_
  refine wp_seq ?_
  refine wp_seq ?_
  refine wp_region_lit ?_
  refine sq (v := (.int .i64 1)) hF4 (wantedS rfl) (run_as rfl rfl) rfl (by decide) fun a5 hF5 => ?_
  refine sqEnd ?_
  clear hF4
  refine nx ?_
  refine wp_block ?_
  refine wkLoop (fun m a w2 => ∃ j x6 x7 : Nat, j ≤ min p 65535 ∧ m = min p 65535 - j ∧ bestTo s p j = (x6, x7) ∧ Fr a 30 [(0, .string ⟨s.toArray⟩), (1, .int .i64 (p : Int)), (6, .int .i64 (x6 : Int)), (7, .int .i64 (x7 : Int)), (8, .int .i64 ((j + 1 : Nat) : Int))] ∧ Mem w [] w2) (min p 65535) ⟨0, 0, 0, Nat.zero_le _, rfl, rfl, hF5.sub ⟨rfl, rfl, rfl, rfl, rfl, trivial⟩, hM0⟩ ?_
  rintro m a0 w1 ⟨j, x6, x7, hj, rfl, hbt, hF0, hM0⟩
  by_cases h1 : j + 1 ≤ p
  · by_cases h2 : j + 1 ≤ 65535
    · obtain ⟨x, hx⟩ : ∃ x, sameS s p (j + 1) = x := ⟨_, rfl⟩
      have hst : bestTo s p (j + 1) = if x6 < x then (x, j + 1) else (x6, x7) := by rw [bestTo, hbt, hx]
      by_cases h3 : x6 < x
      · have hxl := sameS_le s p (j + 1)
        have hms : mostS s p = min 131 (s.length - p) := rfl
        refine wp_seq ?_
        refine wp_seq ?_
        refine wp_region_lit ?_
        refine sq (v := (.int .i64 ((j + 1 : Nat) : Int))) hF0 (wantedS rfl) (run_mv rfl (hF0.ev 8 rfl)) rfl (by decide) fun a1 hF1 => ?_
        refine sq (v := (.int .i64 (p : Int))) hF1 (wantedS rfl) (run_mv rfl (hF1.ev 1 rfl)) rfl (by decide) fun a2 hF2 => ?_
        refine sq (v := (.bool true)) hF2 (wantedS rfl) (run_leq rfl (hF2.ev 10 rfl) (hF2.ev 11 rfl) (decide_eq_true (by omega))) rfl (by decide) fun a3 hF3 => ?_
        refine sq (v := (.bool true)) hF3 (wantedS rfl) (run_mv rfl (hF3.ev 12 rfl)) rfl (by decide) fun a4 hF4 => ?_
        refine sq (v := (.int .i64 ((j + 1 : Nat) : Int))) hF4 (wantedG hF4 rfl rfl rfl rfl rfl) (run_mv rfl (hF4.ev 8 rfl)) rfl (by decide) fun a5 hF5 => ?_
        refine sq (v := (.bool true)) hF5 (wantedG hF5 rfl rfl rfl rfl rfl) (run_leq rfl (hF5.ev 14 rfl) rfl (decide_eq_true (by omega))) rfl (by decide) fun a6 hF6 => ?_
        refine sq (v := (.bool true)) hF6 (wantedS rfl) (run_pick rfl (hF6.ev 13 rfl) (hF6.ev 15 rfl) rfl) rfl (by decide) fun a7 hF7 => ?_
        refine sqEnd ?_
        clear hF0 hF1 hF2 hF3 hF4 hF5 hF6
        refine nx ?_
        refine wp_cond_true (hF7.ev 16 rfl) ?_
        refine wp_skip ?_
        refine nx ?_
        refine wp_seq ?_
        refine wp_block ?_
        refine wp_seq ?_
        refine wp_region_lit ?_
        refine sq (v := (.string ⟨s.toArray⟩)) hF7 (wantedS rfl) (run_mv rfl (hF7.ev 0 rfl)) rfl (by decide) fun a8 hF8 => ?_
        refine sq (v := (.int .i64 (p : Int))) hF8 (wantedS rfl) (run_mv rfl (hF8.ev 1 rfl)) rfl (by decide) fun a9 hF9 => ?_
        refine sq (v := (.int .i64 ((j + 1 : Nat) : Int))) hF9 (wantedS rfl) (run_mv rfl (hF9.ev 8 rfl)) rfl (by decide) fun a10 hF10 => ?_
        refine sqC (v := (.int .i64 (x : Int))) hF10 hM0 (wantedS rfl) (run_call rfl Try.func22 (by kernel_rfl) rfl (mapE3 (hF10.ev 19 rfl) (hF10.ev 20 rfl) (hF10.ev 21 rfl))) rfl (by decide) ((by rw [← hx]; exact rsame_any s p (j + 1) w1 hs (by omega) (by omega) hp)) fun a11 w2 hb2 hF11 hM1 => ?_
        refine sq (v := (.int .i64 (x : Int))) hF11 (wantedS rfl) (run_as rfl (hF11.ev 22 rfl)) rfl (by decide) fun a12 hF12 => ?_
        refine sqEnd ?_
        clear hF7 hF8 hF9 hF10 hF11 hM0
        refine nx ?_
        refine wp_seq ?_
        refine wp_region_lit ?_
        refine sq (v := (.int .i64 (x : Int))) hF12 (wantedS rfl) (run_mv rfl (hF12.ev 9 rfl)) rfl (by decide) fun a13 hF13 => ?_
        refine sq (v := (.int .i64 (x6 : Int))) hF13 (wantedS rfl) (run_mv rfl (hF13.ev 6 rfl)) rfl (by decide) fun a14 hF14 => ?_
        refine sq (v := (.bool true)) hF14 (wantedS rfl) (run_gtr rfl (hF14.ev 23 rfl) (hF14.ev 24 rfl) (decide_eq_true (by omega))) rfl (by decide) fun a15 hF15 => ?_
        refine sqEnd ?_
        clear hF12 hF13 hF14
        refine nx ?_
        refine wp_cond_true (hF15.ev 25 rfl) ?_
        refine wp_region_lit ?_
        refine sq (v := (.int .i64 (x : Int))) hF15 (wantedS rfl) (run_mv rfl (hF15.ev 9 rfl)) rfl (by decide) fun a16 hF16 => ?_
        refine sq (v := (.int .i64 ((j + 1 : Nat) : Int))) hF16 (wantedS rfl) (run_mv rfl (hF16.ev 8 rfl)) rfl (by decide) fun a17 hF17 => ?_
        refine sq (v := (.int .i64 (x : Int))) hF17 (wantedS rfl) (run_as rfl (hF17.ev 26 rfl)) rfl (by decide) fun a18 hF18 => ?_
        refine sq (v := (.int .i64 ((j + 1 : Nat) : Int))) hF18 (wantedS rfl) (run_as rfl (hF18.ev 27 rfl)) rfl (by decide) fun a19 hF19 => ?_
        refine sqEnd ?_
        clear hF15 hF16 hF17 hF18
        refine bkEnd ?_
        refine nx ?_
        refine wp_region_lit ?_
        refine sq (v := (.int .i64 ((j + 1 : Nat) : Int))) hF19 (wantedS rfl) (run_mv rfl (hF19.ev 8 rfl)) rfl (by decide) fun a20 hF20 => ?_
        refine sq (v := (.int .i64 ((j + 1 + 1 : Nat) : Int))) hF20 (wantedS rfl) (run_add (r := ((j + 1 + 1 : Nat) : Int)) rfl (hF20.ev 17 rfl) rfl (by rw [IntKind.wrap_i64]; omega)) rfl (by decide) fun a21 hF21 => ?_
        refine sq (v := (.int .i64 ((j + 1 + 1 : Nat) : Int))) hF21 (wantedS rfl) (run_as rfl (hF21.ev 18 rfl)) rfl (by decide) fun a22 hF22 => ?_
        refine sqEnd ?_
        clear hF19 hF20 hF21
        refine nx ?_
        exact ⟨_, by omega, j + 1, x, j + 1, by omega, rfl, by rw [hst, if_pos h3], hF22.sub ⟨rfl, rfl, rfl, rfl, rfl, trivial⟩, hM1⟩
      · skip
        refine wp_seq ?_
        refine wp_seq ?_
        refine wp_region_lit ?_
        refine sq (v := (.int .i64 ((j + 1 : Nat) : Int))) hF0 (wantedS rfl) (run_mv rfl (hF0.ev 8 rfl)) rfl (by decide) fun a1 hF1 => ?_
        refine sq (v := (.int .i64 (p : Int))) hF1 (wantedS rfl) (run_mv rfl (hF1.ev 1 rfl)) rfl (by decide) fun a2 hF2 => ?_
        refine sq (v := (.bool true)) hF2 (wantedS rfl) (run_leq rfl (hF2.ev 10 rfl) (hF2.ev 11 rfl) (decide_eq_true (by omega))) rfl (by decide) fun a3 hF3 => ?_
        refine sq (v := (.bool true)) hF3 (wantedS rfl) (run_mv rfl (hF3.ev 12 rfl)) rfl (by decide) fun a4 hF4 => ?_
        refine sq (v := (.int .i64 ((j + 1 : Nat) : Int))) hF4 (wantedG hF4 rfl rfl rfl rfl rfl) (run_mv rfl (hF4.ev 8 rfl)) rfl (by decide) fun a5 hF5 => ?_
        refine sq (v := (.bool true)) hF5 (wantedG hF5 rfl rfl rfl rfl rfl) (run_leq rfl (hF5.ev 14 rfl) rfl (decide_eq_true (by omega))) rfl (by decide) fun a6 hF6 => ?_
        refine sq (v := (.bool true)) hF6 (wantedS rfl) (run_pick rfl (hF6.ev 13 rfl) (hF6.ev 15 rfl) rfl) rfl (by decide) fun a7 hF7 => ?_
        refine sqEnd ?_
        clear hF0 hF1 hF2 hF3 hF4 hF5 hF6
        refine nx ?_
        refine wp_cond_true (hF7.ev 16 rfl) ?_
        refine wp_skip ?_
        refine nx ?_
        refine wp_seq ?_
        refine wp_block ?_
        refine wp_seq ?_
        refine wp_region_lit ?_
        refine sq (v := (.string ⟨s.toArray⟩)) hF7 (wantedS rfl) (run_mv rfl (hF7.ev 0 rfl)) rfl (by decide) fun a8 hF8 => ?_
        refine sq (v := (.int .i64 (p : Int))) hF8 (wantedS rfl) (run_mv rfl (hF8.ev 1 rfl)) rfl (by decide) fun a9 hF9 => ?_
        refine sq (v := (.int .i64 ((j + 1 : Nat) : Int))) hF9 (wantedS rfl) (run_mv rfl (hF9.ev 8 rfl)) rfl (by decide) fun a10 hF10 => ?_
        refine sqC (v := (.int .i64 (x : Int))) hF10 hM0 (wantedS rfl) (run_call rfl Try.func22 (by kernel_rfl) rfl (mapE3 (hF10.ev 19 rfl) (hF10.ev 20 rfl) (hF10.ev 21 rfl))) rfl (by decide) ((by rw [← hx]; exact rsame_any s p (j + 1) w1 hs (by omega) (by omega) hp)) fun a11 w2 hb2 hF11 hM1 => ?_
        refine sq (v := (.int .i64 (x : Int))) hF11 (wantedS rfl) (run_as rfl (hF11.ev 22 rfl)) rfl (by decide) fun a12 hF12 => ?_
        refine sqEnd ?_
        clear hF7 hF8 hF9 hF10 hF11 hM0
        refine nx ?_
        refine wp_seq ?_
        refine wp_region_lit ?_
        refine sq (v := (.int .i64 (x : Int))) hF12 (wantedS rfl) (run_mv rfl (hF12.ev 9 rfl)) rfl (by decide) fun a13 hF13 => ?_
        refine sq (v := (.int .i64 (x6 : Int))) hF13 (wantedS rfl) (run_mv rfl (hF13.ev 6 rfl)) rfl (by decide) fun a14 hF14 => ?_
        refine sq (v := (.bool false)) hF14 (wantedS rfl) (run_gtr rfl (hF14.ev 23 rfl) (hF14.ev 24 rfl) (decide_eq_false (by omega))) rfl (by decide) fun a15 hF15 => ?_
        refine sqEnd ?_
        clear hF12 hF13 hF14
        refine nx ?_
        refine wp_cond_false (hF15.ev 25 rfl) ?_
        refine wp_skip ?_
        refine bkEnd ?_
        refine nx ?_
        refine wp_region_lit ?_
        refine sq (v := (.int .i64 ((j + 1 : Nat) : Int))) hF15 (wantedS rfl) (run_mv rfl (hF15.ev 8 rfl)) rfl (by decide) fun a16 hF16 => ?_
        refine sq (v := (.int .i64 ((j + 1 + 1 : Nat) : Int))) hF16 (wantedS rfl) (run_add (r := ((j + 1 + 1 : Nat) : Int)) rfl (hF16.ev 17 rfl) rfl (by rw [IntKind.wrap_i64]; omega)) rfl (by decide) fun a17 hF17 => ?_
        refine sq (v := (.int .i64 ((j + 1 + 1 : Nat) : Int))) hF17 (wantedS rfl) (run_as rfl (hF17.ev 18 rfl)) rfl (by decide) fun a18 hF18 => ?_
        refine sqEnd ?_
        clear hF15 hF16 hF17
        refine nx ?_
        exact ⟨_, by omega, j + 1, x6, x7, by omega, rfl, by rw [hst, if_neg h3], hF18.sub ⟨rfl, rfl, rfl, rfl, rfl, trivial⟩, hM1⟩
    · have hres : bestS s p = (x6, x7) := by unfold bestS; rw [show min p 65535 = j by omega, hbt]
      refine wp_seq ?_
      refine wp_seq ?_
      refine wp_region_lit ?_
      refine sq (v := (.int .i64 ((j + 1 : Nat) : Int))) hF0 (wantedS rfl) (run_mv rfl (hF0.ev 8 rfl)) rfl (by decide) fun a1 hF1 => ?_
      refine sq (v := (.int .i64 (p : Int))) hF1 (wantedS rfl) (run_mv rfl (hF1.ev 1 rfl)) rfl (by decide) fun a2 hF2 => ?_
      refine sq (v := (.bool true)) hF2 (wantedS rfl) (run_leq rfl (hF2.ev 10 rfl) (hF2.ev 11 rfl) (decide_eq_true (by omega))) rfl (by decide) fun a3 hF3 => ?_
      refine sq (v := (.bool true)) hF3 (wantedS rfl) (run_mv rfl (hF3.ev 12 rfl)) rfl (by decide) fun a4 hF4 => ?_
      refine sq (v := (.int .i64 ((j + 1 : Nat) : Int))) hF4 (wantedG hF4 rfl rfl rfl rfl rfl) (run_mv rfl (hF4.ev 8 rfl)) rfl (by decide) fun a5 hF5 => ?_
      refine sq (v := (.bool false)) hF5 (wantedG hF5 rfl rfl rfl rfl rfl) (run_leq rfl (hF5.ev 14 rfl) rfl (decide_eq_false (by omega))) rfl (by decide) fun a6 hF6 => ?_
      refine sq (v := (.bool false)) hF6 (wantedS rfl) (run_pick rfl (hF6.ev 13 rfl) (hF6.ev 15 rfl) rfl) rfl (by decide) fun a7 hF7 => ?_
      refine sqEnd ?_
      clear hF0 hF1 hF2 hF3 hF4 hF5 hF6
      refine nx ?_
      refine wp_cond_false (hF7.ev 16 rfl) ?_
      refine wp_exit ?_
      refine nxExit ?_
      refine nxExit ?_
      refine bkHere ?_
      refine nx ?_
      refine wp_seq ?_
      refine wp_region_lit ?_
      refine sq (v := (.int .i64 (x6 : Int))) hF7 (wantedS rfl) (run_mv rfl (hF7.ev 6 rfl)) rfl (by decide) fun a8 hF8 => ?_
      refine sq (v := (.int .i64 (x7 : Int))) hF8 (wantedS rfl) (run_mv rfl (hF8.ev 7 rfl)) rfl (by decide) fun a9 hF9 => ?_
      refine sq (v := (.int .i64 (x6 : Int))) hF9 (wantedS rfl) (run_as rfl (hF9.ev 28 rfl)) rfl (by decide) fun a10 hF10 => ?_
      refine sq (v := (.int .i64 (x7 : Int))) hF10 (wantedS rfl) (run_as rfl (hF10.ev 29 rfl)) rfl (by decide) fun a11 hF11 => ?_
      refine sqEnd ?_
      clear hF7 hF8 hF9 hF10
      refine nx ?_
      refine wp_ret ?_
      exact ret2 hF11 rfl rfl rfl ⟨by rw [hres], hM0.below⟩
  · have hres : bestS s p = (x6, x7) := by unfold bestS; rw [show min p 65535 = j by omega, hbt]
    refine wp_seq ?_
    refine wp_seq ?_
    refine wp_region_lit ?_
    refine sq (v := (.int .i64 ((j + 1 : Nat) : Int))) hF0 (wantedS rfl) (run_mv rfl (hF0.ev 8 rfl)) rfl (by decide) fun a1 hF1 => ?_
    refine sq (v := (.int .i64 (p : Int))) hF1 (wantedS rfl) (run_mv rfl (hF1.ev 1 rfl)) rfl (by decide) fun a2 hF2 => ?_
    refine sq (v := (.bool false)) hF2 (wantedS rfl) (run_leq rfl (hF2.ev 10 rfl) (hF2.ev 11 rfl) (decide_eq_false (by omega))) rfl (by decide) fun a3 hF3 => ?_
    refine sq (v := (.bool false)) hF3 (wantedS rfl) (run_mv rfl (hF3.ev 12 rfl)) rfl (by decide) fun a4 hF4 => ?_
    refine sqSkip hF4 (unwantedG hF4 rfl rfl rfl rfl rfl) rfl (by decide) fun a5 hF5 => ?_
    refine sqSkip hF5 (unwantedG hF5 rfl rfl rfl rfl rfl) rfl (by decide) fun a6 hF6 => ?_
    refine sq (v := (.bool false)) hF6 (wantedS rfl) (run_pick rfl (hF6.ev 13 rfl) (hF6.ev 15 rfl) rfl) rfl (by decide) fun a7 hF7 => ?_
    refine sqEnd ?_
    clear hF0 hF1 hF2 hF3 hF4 hF5 hF6
    refine nx ?_
    refine wp_cond_false (hF7.ev 16 rfl) ?_
    refine wp_exit ?_
    refine nxExit ?_
    refine nxExit ?_
    refine bkHere ?_
    refine nx ?_
    refine wp_seq ?_
    refine wp_region_lit ?_
    refine sq (v := (.int .i64 (x6 : Int))) hF7 (wantedS rfl) (run_mv rfl (hF7.ev 6 rfl)) rfl (by decide) fun a8 hF8 => ?_
    refine sq (v := (.int .i64 (x7 : Int))) hF8 (wantedS rfl) (run_mv rfl (hF8.ev 7 rfl)) rfl (by decide) fun a9 hF9 => ?_
    refine sq (v := (.int .i64 (x6 : Int))) hF9 (wantedS rfl) (run_as rfl (hF9.ev 28 rfl)) rfl (by decide) fun a10 hF10 => ?_
    refine sq (v := (.int .i64 (x7 : Int))) hF10 (wantedS rfl) (run_as rfl (hF10.ev 29 rfl)) rfl (by decide) fun a11 hF11 => ?_
    refine sqEnd ?_
    clear hF7 hF8 hF9 hF10
    refine nx ?_
    refine wp_ret ?_
    exact ret2 hF11 rfl rfl rfl ⟨by rw [hres], hM0.below⟩
set_option maxRecDepth 100000 in
set_option maxHeartbeats 1000000 in
theorem rrun_any (l : List UInt8) (w : World) (hl : l.length ≤ 2 ^ 38) : Calls Try.prog 18 #[.string ⟨l.toArray⟩] w fun e w' => e = .returned (.string ⟨(runS l).toArray⟩) ∧ Below w.heap.size w w' := by
  refine walk_enter Try.func18 rfl rfl rfl fun a0 hF0 => ?_
  have hM0 := Mem.new w
  refine wp_seq ?_
  refine wp_region_lit ?_
  refine sq (v := (.string ⟨List.toArray []⟩)) hF0 (wantedS rfl) (run_as rfl rfl) rfl (by decide) fun a1 hF1 => ?_
  refine sqEnd ?_
  clear hF0
  refine nx ?_
  refine wp_seq ?_
  refine wp_region_lit ?_
  refine sq (v := (.string ⟨List.toArray []⟩)) hF1 (wantedS rfl) (run_as rfl rfl) rfl (by decide) fun a2 hF2 => ?_
  refine sqEnd ?_
  clear hF1
  refine nx ?_
  refine wp_seq ?_
  refine wp_block ?_
  refine wkLoop (fun m a w2 => ∃ o2 l2 : List UInt8, m = l2.length ∧ o2 ++ runS l2 = runS l ∧ o2.length + 2 * l2.length ≤ 2 ^ 40 ∧ Fr a 30 [(0, .string ⟨l2.toArray⟩), (3, .string ⟨o2.toArray⟩)] ∧ Mem w [] w2) l.length ⟨[], l, rfl, rfl, by simp; omega, hF2.sub ⟨rfl, rfl, trivial⟩, hM0⟩ ?_
  rintro m a0 w1 ⟨o2, l2, rfl, he, hlen, hF0, hM0⟩
  by_cases h1 : 128 < l2.length
  · have hne : l2 ≠ [] := List.length_pos_iff.1 (by omega)
    rw [runS_cons hne, show min l2.length 128 - 1 = 127 by omega] at he
    refine wp_seq ?_
    refine wp_seq ?_
    refine wp_region_lit ?_
    refine sq (v := (.string ⟨l2.toArray⟩)) hF0 (wantedS rfl) (run_mv rfl (hF0.ev 0 rfl)) rfl (by decide) fun a1 hF1 => ?_
    refine sq (v := (.int .i64 (l2.length : Int))) hF1 (wantedS rfl) (run_len rfl (hF1.ev 4 rfl) rfl Try.underlying9) rfl (by decide) fun a2 hF2 => ?_
    refine sq (v := (.bool true)) hF2 (wantedS rfl) (run_gtr rfl (hF2.ev 5 rfl) rfl (decide_eq_true (by omega))) rfl (by decide) fun a3 hF3 => ?_
    refine sqEnd ?_
    clear hF0 hF1 hF2
    refine nx ?_
    refine wp_cond_true (hF3.ev 6 rfl) ?_
    refine wp_skip ?_
    refine nx ?_
    refine wp_block ?_
    refine wp_seq ?_
    obtain ⟨KL, hKL⟩ : ∃ KL, KL = [kval (.string ⟨o2.toArray⟩), kbytes 5 [127], kval (.string ⟨List.toArray [127]⟩), kval (.string ⟨(o2 ++ [127]).toArray⟩), kval (.string ⟨l2.toArray⟩), kval (.string ⟨(l2.take 128).toArray⟩), kval (.string ⟨(o2 ++ [127] ++ (l2.take 128)).toArray⟩)] := ⟨_, rfl⟩
    have K0 : KL.getD 0 kany = kval (.string ⟨o2.toArray⟩) := by rw [hKL]; rfl
    have K1 : KL.getD 1 kany = kbytes 5 [127] := by rw [hKL]; rfl
    have K2 : KL.getD 2 kany = kval (.string ⟨List.toArray [127]⟩) := by rw [hKL]; rfl
    have K3 : KL.getD 3 kany = kval (.string ⟨(o2 ++ [127]).toArray⟩) := by rw [hKL]; rfl
    have K4 : KL.getD 4 kany = kval (.string ⟨l2.toArray⟩) := by rw [hKL]; rfl
    have K5 : KL.getD 5 kany = kval (.string ⟨(l2.take 128).toArray⟩) := by rw [hKL]; rfl
    have K6 : KL.getD 6 kany = kval (.string ⟨(o2 ++ [127] ++ (l2.take 128)).toArray⟩) := by rw [hKL]; rfl
    have HKL : KL.length ≤ 7 := by rw [hKL]; exact Nat.le_refl _
    clear hKL
    refine wp_region_kdTail2 30 7 (by kernel_rfl) (by kernel_rfl) (by kernel_rfl) (by kernel_rfl) hF3.size KL HKL ?_ ?_
    · refine ⟨?_, ?_, ?_, ?_, ?_, ?_, ?_, trivial⟩
      · refine asksH_mk fun a W hS hh hd => ⟨wanted_yes rfl, ?_⟩
        exact giv_run (run_mv rfl (eval_tmp (hh 3 _ rfl (hF3.at 3 rfl)))) K0
      · refine asksH_mk fun a W hS hh hd => ⟨wanted_yes rfl, ?_⟩
        exact giv_bytes [127] 5 (run_bytes1 rfl rfl) K1
      · refine asksH_mk fun a W hS hh hd => ⟨wanted_yes rfl, ?_⟩
        obtain ⟨g1, c1, e1, b1⟩ := Dep.bytes hd (j := 1) (s := 8) (by kernel_rfl) K1
        exact giv_run (run_cv rfl (eval_tmp e1) (run_strBlk (cap := c1) (l := [127]) rfl b1)) K2
      · refine asksH_mk fun a W hS hh hd => ⟨wanted_yes rfl, ?_⟩
        exact giv_run (run_cat rfl (eval_tmp (hd.val (j := 0) (s := 7) (by kernel_rfl) K0)) (eval_tmp (hd.val (j := 2) (s := 9) (by kernel_rfl) K2)) (by first | omega | decide | (simp; done) | (simp; omega))) K3
      · refine asksH_mk fun a W hS hh hd => ⟨wanted_yes rfl, ?_⟩
        exact giv_run (run_mv rfl (eval_tmp (hh 0 _ rfl (hF3.at 0 rfl)))) K4
      · refine asksH_mk fun a W hS hh hd => ⟨wanted_yes rfl, ?_⟩
        exact giv_run (run_sTo (n := 128) rfl (eval_tmp (hd.val (j := 4) (s := 11) (by kernel_rfl) K4)) rfl Try.underlying9 (by omega) (by omega)) K5
      · refine asksH_mk fun a W hS hh hd => ⟨wanted_yes rfl, ?_⟩
        exact giv_run (run_cat rfl (eval_tmp (hd.val (j := 3) (s := 10) (by kernel_rfl) K3)) (eval_tmp (hd.val (j := 5) (s := 12) (by kernel_rfl) K5)) (by first | omega | decide | (simp; done) | (simp; omega))) K6
    · intro a4 w2 hb2 hK
      have e0 := hK.hval (i := 0) (s := 7) rfl (by kernel_rfl) K0
      obtain ⟨v0, e1, hpv0⟩ := hK.hget (i := 1) (s := 8) rfl (by kernel_rfl)
      rw [K1] at hpv0
      have e2 := hK.hval (i := 2) (s := 9) rfl (by kernel_rfl) K2
      have e3 := hK.hval (i := 3) (s := 10) rfl (by kernel_rfl) K3
      have e4 := hK.hval (i := 4) (s := 11) rfl (by kernel_rfl) K4
      have e5 := hK.hval (i := 5) (s := 12) rfl (by kernel_rfl) K5
      have e6 := hK.hval (i := 6) (s := 13) rfl (by kernel_rfl) K6
      have hF4 : Fr a4 30 [(0, (.string ⟨l2.toArray⟩)), (3, (.string ⟨o2.toArray⟩)), (4, (.string ⟨l2.toArray⟩)), (5, (.int .i64 (l2.length : Int))), (6, (.bool true)), (13, (.string ⟨(o2 ++ [127] ++ (l2.take 128)).toArray⟩))] := (hK.hfr hF3 [(.string ⟨o2.toArray⟩), v0, (.string ⟨List.toArray [127]⟩), (.string ⟨(o2 ++ [127]).toArray⟩), (.string ⟨l2.toArray⟩), (.string ⟨(l2.take 128).toArray⟩), (.string ⟨(o2 ++ [127] ++ (l2.take 128)).toArray⟩)] ⟨e0, e1, e2, e3, e4, e5, e6, trivial⟩).sub ⟨rfl, rfl, rfl, rfl, rfl, rfl, trivial⟩
      have hM1 := hM0.grow hb2
      clear hK K0 e0 K1 e1 K2 e2 K3 e3 K4 e4 K5 e5 K6 e6 HKL
      simp only [List.drop_succ_cons, List.drop_zero]
      refine sq (v := (.string ⟨(o2 ++ [127] ++ (l2.take 128)).toArray⟩)) hF4 (wantedS rfl) (run_as rfl (hF4.ev 13 rfl)) rfl (by decide) fun a5 hF5 => ?_
      refine sqEnd ?_
      clear hF3 hF4 hM0
      refine nx ?_
      refine wp_region_lit ?_
      refine sq (v := (.string ⟨l2.toArray⟩)) hF5 (wantedS rfl) (run_mv rfl (hF5.ev 0 rfl)) rfl (by decide) fun a6 hF6 => ?_
      refine sq (v := (.string ⟨(l2.drop 128).toArray⟩)) hF6 (wantedS rfl) (run_sFrom (m := 128) rfl (hF6.ev 14 rfl) rfl Try.underlying9 (by omega) (by omega)) rfl (by decide) fun a7 hF7 => ?_
      refine sq (v := (.string ⟨(l2.drop 128).toArray⟩)) hF7 (wantedS rfl) (run_as rfl (hF7.ev 15 rfl)) rfl (by decide) fun a8 hF8 => ?_
      refine sqEnd ?_
      clear hF5 hF6 hF7
      refine bkEnd ?_
      refine nx ?_
      exact ⟨_, by rw [List.length_drop]; omega, _, l2.drop 128, rfl, by rw [← he]; simp, by simp; omega, hF8.sub ⟨rfl, rfl, trivial⟩, hM1⟩
  by_cases h2 : l2.length = 0
  · have hres : runS l = o2 := by rw [← he, List.length_eq_zero_iff.1 h2, runS_nil, List.append_nil]
    refine wp_seq ?_
    refine wp_seq ?_
    refine wp_region_lit ?_
    refine sq (v := (.string ⟨l2.toArray⟩)) hF0 (wantedS rfl) (run_mv rfl (hF0.ev 0 rfl)) rfl (by decide) fun a1 hF1 => ?_
    refine sq (v := (.int .i64 (l2.length : Int))) hF1 (wantedS rfl) (run_len rfl (hF1.ev 4 rfl) rfl Try.underlying9) rfl (by decide) fun a2 hF2 => ?_
    refine sq (v := (.bool false)) hF2 (wantedS rfl) (run_gtr rfl (hF2.ev 5 rfl) rfl (decide_eq_false (by omega))) rfl (by decide) fun a3 hF3 => ?_
    refine sqEnd ?_
    clear hF0 hF1 hF2
    refine nx ?_
    refine wp_cond_false (hF3.ev 6 rfl) ?_
    refine wp_exit ?_
    refine nxExit ?_
    refine nxExit ?_
    refine bkHere ?_
    refine nx ?_
    refine wp_seq ?_
    refine wp_seq ?_
    refine wp_region_lit ?_
    refine sq (v := (.string ⟨l2.toArray⟩)) hF3 (wantedS rfl) (run_mv rfl (hF3.ev 0 rfl)) rfl (by decide) fun a4 hF4 => ?_
    refine sq (v := (.int .i64 (l2.length : Int))) hF4 (wantedS rfl) (run_len rfl (hF4.ev 16 rfl) rfl Try.underlying9) rfl (by decide) fun a5 hF5 => ?_
    refine sq (v := (.bool true)) hF5 (wantedS rfl) (run_eqi rfl (hF5.ev 17 rfl) rfl (beq_iff_eq.2 (by omega))) rfl (by decide) fun a6 hF6 => ?_
    refine sqEnd ?_
    clear hF3 hF4 hF5
    refine nx ?_
    refine wp_cond_true (hF6.ev 18 rfl) ?_
    refine wp_seq ?_
    refine wp_region_lit ?_
    refine sq (v := (.string ⟨o2.toArray⟩)) hF6 (wantedS rfl) (run_mv rfl (hF6.ev 3 rfl)) rfl (by decide) fun a7 hF7 => ?_
    refine sq (v := (.string ⟨o2.toArray⟩)) hF7 (wantedS rfl) (run_as rfl (hF7.ev 19 rfl)) rfl (by decide) fun a8 hF8 => ?_
    refine sqEnd ?_
    clear hF6 hF7
    refine nx ?_
    refine wp_ret ?_
    refine nxRet ?_
    exact ret1 hF8 rfl rfl ⟨by rw [hres], hM0.below⟩
  have hne : l2 ≠ [] := List.length_pos_iff.1 (by omega)
  have hk : (UInt8.ofNat (l2.length - 1)).toNat = l2.length - 1 := by rw [UInt8.toNat_ofNat']; omega
  have hres : runS l = o2 ++ [UInt8.ofNat (l2.length - 1)] ++ l2 := by
    rw [← he, runS_cons hne, show min l2.length 128 = l2.length by omega, List.take_of_length_le (by omega), List.drop_eq_nil_of_le (by omega), runS_nil]
    simp
  refine wp_seq ?_
  refine wp_seq ?_
  refine wp_region_lit ?_
  refine sq (v := (.string ⟨l2.toArray⟩)) hF0 (wantedS rfl) (run_mv rfl (hF0.ev 0 rfl)) rfl (by decide) fun a1 hF1 => ?_
  refine sq (v := (.int .i64 (l2.length : Int))) hF1 (wantedS rfl) (run_len rfl (hF1.ev 4 rfl) rfl Try.underlying9) rfl (by decide) fun a2 hF2 => ?_
  refine sq (v := (.bool false)) hF2 (wantedS rfl) (run_gtr rfl (hF2.ev 5 rfl) rfl (decide_eq_false (by omega))) rfl (by decide) fun a3 hF3 => ?_
  refine sqEnd ?_
  clear hF0 hF1 hF2
  refine nx ?_
  refine wp_cond_false (hF3.ev 6 rfl) ?_
  refine wp_exit ?_
  refine nxExit ?_
  refine nxExit ?_
  refine bkHere ?_
  refine nx ?_
  refine wp_seq ?_
  refine wp_seq ?_
  refine wp_region_lit ?_
  refine sq (v := (.string ⟨l2.toArray⟩)) hF3 (wantedS rfl) (run_mv rfl (hF3.ev 0 rfl)) rfl (by decide) fun a4 hF4 => ?_
  refine sq (v := (.int .i64 (l2.length : Int))) hF4 (wantedS rfl) (run_len rfl (hF4.ev 16 rfl) rfl Try.underlying9) rfl (by decide) fun a5 hF5 => ?_
  refine sq (v := (.bool false)) hF5 (wantedS rfl) (run_eqi rfl (hF5.ev 17 rfl) rfl (beq_eq_false_iff_ne.2 (by omega))) rfl (by decide) fun a6 hF6 => ?_
  refine sqEnd ?_
  clear hF3 hF4 hF5
  refine nx ?_
  refine wp_cond_false (hF6.ev 18 rfl) ?_
  refine wp_skip ?_
  refine nx ?_
  refine wp_seq ?_
  refine wp_region_lit ?_
  refine sq (v := (.string ⟨o2.toArray⟩)) hF6 (wantedS rfl) (run_mv rfl (hF6.ev 3 rfl)) rfl (by decide) fun a7 hF7 => ?_
  refine sq (v := (.string ⟨l2.toArray⟩)) hF7 (wantedS rfl) (run_mv rfl (hF7.ev 0 rfl)) rfl (by decide) fun a8 hF8 => ?_
  refine sq (v := (.int .i64 (l2.length : Int))) hF8 (wantedS rfl) (run_len rfl (hF8.ev 21 rfl) rfl Try.underlying9) rfl (by decide) fun a9 hF9 => ?_
  refine sq (v := (.int .i64 ((l2.length - 1 : Nat) : Int))) hF9 (wantedS rfl) (run_sub (r := ((l2.length - 1 : Nat) : Int)) rfl (hF9.ev 22 rfl) rfl (by rw [IntKind.wrap_i64]; omega)) rfl (by decide) fun a10 hF10 => ?_
  refine sq (v := (.int .u8 ((UInt8.ofNat (l2.length - 1)).toNat : Int))) hF10 (wantedS rfl) (run_cvI (r := ((UInt8.ofNat (l2.length - 1)).toNat : Int)) rfl (hF10.ev 23 rfl) Try.underlying3 Try.underlying5 (by rw [hk, IntKind.wrap_u8]; omega)) rfl (by decide) fun a11 hF11 => ?_
  refine sqBytes [(UInt8.ofNat (l2.length - 1))] hF11 hM0 (wantedS rfl) (run_bytes1 rfl (hF11.ev 24 rfl)) rfl (by decide) fun g2 a12 w2 hgg2 hb2 hF12 hM1 => ?_
  refine sq (v := (.string ⟨List.toArray [(UInt8.ofNat (l2.length - 1))]⟩)) hF12 (wantedS rfl) (run_cv rfl (hF12.ev 25 rfl) (run_strBlk (l := [(UInt8.ofNat (l2.length - 1))]) rfl (hM1.at 0 rfl))) rfl (by decide) fun a13 hF13 => ?_
  refine sq (v := (.string ⟨(o2 ++ [(UInt8.ofNat (l2.length - 1))]).toArray⟩)) hF13 (wantedS rfl) (run_cat rfl (hF13.ev 20 rfl) (hF13.ev 26 rfl) (by first | omega | decide | (simp; done) | (simp; omega))) rfl (by decide) fun a14 hF14 => ?_
  refine sq (v := (.string ⟨l2.toArray⟩)) hF14 (wantedS rfl) (run_mv rfl (hF14.ev 0 rfl)) rfl (by decide) fun a15 hF15 => ?_
  refine sq (v := (.string ⟨(o2 ++ [(UInt8.ofNat (l2.length - 1))] ++ l2).toArray⟩)) hF15 (wantedS rfl) (run_cat rfl (hF15.ev 27 rfl) (hF15.ev 28 rfl) (by first | omega | decide | (simp; done) | (simp; omega))) rfl (by decide) fun a16 hF16 => ?_
  refine sq (v := (.string ⟨(o2 ++ [(UInt8.ofNat (l2.length - 1))] ++ l2).toArray⟩)) hF16 (wantedS rfl) (run_as rfl (hF16.ev 29 rfl)) rfl (by decide) fun a17 hF17 => ?_
  refine sqEnd ?_
  clear hF6 hF7 hF8 hF9 hF10 hF11 hF12 hF13 hF14 hF15 hF16 hM0
  refine nx ?_
  refine wp_ret ?_
  exact ret1 hF17 rfl rfl ⟨by rw [hres], hM1.below⟩
set_option maxRecDepth 100000 in
set_option maxHeartbeats 1000000 in
theorem rpack_any (s : List UInt8) (w : World) (hs : s.length ≤ 2 ^ 32) : Calls Try.prog 11 #[.string ⟨s.toArray⟩] w fun e w' => e = .returned (.string ⟨(packS s).toArray⟩) ∧ Below w.heap.size w w' := by
  refine walk_enter Try.func11 rfl rfl rfl fun a0 hF0 => ?_
  have hM0 := Mem.new w
  refine wp_seq ?_
  refine wp_region_lit ?_
  refine sq (v := (.string ⟨List.toArray []⟩)) hF0 (wantedS rfl) (run_as rfl rfl) rfl (by decide) fun a1 hF1 => ?_
  refine sqEnd ?_
  clear hF0
  refine nx ?_
  refine wp_seq ?_
  refine wp_region_lit ?_
  refine sq (v := (.string ⟨List.toArray []⟩)) hF1 (wantedS rfl) (run_as rfl rfl) rfl (by decide) fun a2 hF2 => ?_
  refine sq (v := (.string ⟨List.toArray []⟩)) hF2 (wantedS rfl) (run_as rfl rfl) rfl (by decide) fun a3 hF3 => ?_
  refine sqEnd ?_
  clear hF1 hF2
  refine nx ?_
  refine wp_seq ?_
  refine wp_region_lit ?_
  refine sq (v := (.int .i64 0)) hF3 (wantedS rfl) (run_as rfl rfl) rfl (by decide) fun a4 hF4 => ?_
  refine sqEnd ?_
  clear hF3
  refine nx ?_
  refine wp_seq ?_
  refine wp_block ?_
  refine wkLoop (fun m a w2 => ∃ (o2 : List UInt8) (al p : Nat), al ≤ p ∧ p ≤ s.length ∧ m = s.length - p ∧ o2 ++ packT s al p = packS s ∧ Fr a 52 [(0, .string ⟨s.toArray⟩), (3, .string ⟨o2.toArray⟩), (4, .string ⟨((s.drop al).take (p - al)).toArray⟩), (5, .int .i64 (p : Int))] ∧ Mem w [] w2) s.length ⟨[], 0, 0, Nat.zero_le _, Nat.zero_le _, rfl, rfl, hF4.sub ⟨rfl, rfl, rfl, rfl, trivial⟩, hM0⟩ ?_
  rintro m a0 w1 ⟨o2, al, p, hal, hp, rfl, he, hF0, hM0⟩
  have hpk := pack_len s
  have hol : o2.length + (packT s al p).length = (packS s).length := by rw [← he, List.length_append]
  have hpl : ((s.drop al).take (p - al)).length = p - al := by rw [List.length_take, List.length_drop]; omega
  by_cases h1 : p < s.length
  · rw [packT_step al h1] at he
    obtain ⟨n, hn⟩ : ∃ n, (bestS s p).1 = n := ⟨_, rfl⟩
    obtain ⟨far, hfr⟩ : ∃ far, (bestS s p).2 = far := ⟨_, rfl⟩
    by_cases h4 : n < 4
    · rw [hn, if_pos h4] at he
      refine wp_seq ?_
      refine wp_seq ?_
      refine wp_region_lit ?_
      refine sq (v := (.int .i64 (p : Int))) hF0 (wantedS rfl) (run_mv rfl (hF0.ev 5 rfl)) rfl (by decide) fun a1 hF1 => ?_
      refine sq (v := (.string ⟨s.toArray⟩)) hF1 (wantedS rfl) (run_mv rfl (hF1.ev 0 rfl)) rfl (by decide) fun a2 hF2 => ?_
      refine sq (v := (.int .i64 (s.length : Int))) hF2 (wantedS rfl) (run_len rfl (hF2.ev 9 rfl) rfl Try.underlying9) rfl (by decide) fun a3 hF3 => ?_
      refine sq (v := (.bool true)) hF3 (wantedS rfl) (run_lss rfl (hF3.ev 8 rfl) (hF3.ev 10 rfl) (decide_eq_true (by omega))) rfl (by decide) fun a4 hF4 => ?_
      refine sqEnd ?_
      clear hF0 hF1 hF2 hF3
      refine nx ?_
      refine wp_cond_true (hF4.ev 11 rfl) ?_
      refine wp_skip ?_
      refine nx ?_
      refine wp_block ?_
      refine wp_seq ?_
      refine wp_region_lit ?_
      refine sq (v := (.string ⟨s.toArray⟩)) hF4 (wantedS rfl) (run_mv rfl (hF4.ev 0 rfl)) rfl (by decide) fun a5 hF5 => ?_
      refine sq (v := (.int .i64 (p : Int))) hF5 (wantedS rfl) (run_mv rfl (hF5.ev 5 rfl)) rfl (by decide) fun a6 hF6 => ?_
      refine sqC (v := (.tuple #[(.int .i64 (n : Int)), (.int .i64 (far : Int))])) hF6 hM0 (wantedS rfl) (run_call rfl Try.func17 (by kernel_rfl) rfl (mapE2 (hF6.ev 13 rfl) (hF6.ev 14 rfl))) rfl (by decide) ((by rw [← hn, ← hfr]; exact rbest_any s p w1 hs (by omega))) fun a7 w2 hb2 hF7 hM1 => ?_
      refine sq (v := (.tuple #[(.int .i64 (n : Int)), (.int .i64 (far : Int))])) hF7 (wantedS rfl) (run_mv rfl (hF7.ev 15 rfl)) rfl (by decide) fun a8 hF8 => ?_
      refine sq (v := (.int .i64 (n : Int))) hF8 (wantedS rfl) (run_ext rfl (hF8.ev 12 rfl) rfl) rfl (by decide) fun a9 hF9 => ?_
      refine sq (v := (.int .i64 (far : Int))) hF9 (wantedS rfl) (run_ext rfl (hF9.ev 12 rfl) rfl) rfl (by decide) fun a10 hF10 => ?_
      refine sq (v := (.int .i64 (n : Int))) hF10 (wantedS rfl) (run_as rfl (hF10.ev 16 rfl)) rfl (by decide) fun a11 hF11 => ?_
      refine sq (v := (.int .i64 (far : Int))) hF11 (wantedS rfl) (run_as rfl (hF11.ev 17 rfl)) rfl (by decide) fun a12 hF12 => ?_
      refine sqEnd ?_
      clear hF4 hF5 hF6 hF7 hF8 hF9 hF10 hF11 hM0
      refine nx ?_
      refine wp_seq ?_
      refine wp_region_lit ?_
      refine sq (v := (.int .i64 (n : Int))) hF12 (wantedS rfl) (run_mv rfl (hF12.ev 6 rfl)) rfl (by decide) fun a13 hF13 => ?_
      refine sq (v := (.bool true)) hF13 (wantedS rfl) (run_lss rfl (hF13.ev 18 rfl) rfl (decide_eq_true (by omega))) rfl (by decide) fun a14 hF14 => ?_
      refine sqEnd ?_
      clear hF12 hF13
      refine nx ?_
      refine wp_cond_true (hF14.ev 19 rfl) ?_
      refine wp_seq ?_
      refine wp_region_lit ?_
      refine sq (v := (.string ⟨((s.drop al).take (p - al)).toArray⟩)) hF14 (wantedS rfl) (run_mv rfl (hF14.ev 4 rfl)) rfl (by decide) fun a15 hF15 => ?_
      refine sq (v := (.string ⟨s.toArray⟩)) hF15 (wantedS rfl) (run_mv rfl (hF15.ev 0 rfl)) rfl (by decide) fun a16 hF16 => ?_
      refine sq (v := (.int .i64 (p : Int))) hF16 (wantedS rfl) (run_mv rfl (hF16.ev 5 rfl)) rfl (by decide) fun a17 hF17 => ?_
      refine sq (v := (.int .i64 (p : Int))) hF17 (wantedS rfl) (run_mv rfl (hF17.ev 5 rfl)) rfl (by decide) fun a18 hF18 => ?_
      refine sq (v := (.int .i64 ((p + 1 : Nat) : Int))) hF18 (wantedS rfl) (run_add (r := ((p + 1 : Nat) : Int)) rfl (hF18.ev 23 rfl) rfl (by rw [IntKind.wrap_i64]; omega)) rfl (by decide) fun a19 hF19 => ?_
      refine sq (v := (.string ⟨((s.drop p).take 1).toArray⟩)) hF19 (wantedS rfl) (run_sMidE (m := p) (m2 := (p + 1)) (by rw [show p + 1 - p = 1 by omega]) rfl (hF19.ev 21 rfl) (hF19.ev 22 rfl) (hF19.ev 24 rfl) Try.underlying9 (by omega) (by omega) (by omega) (by omega)) rfl (by decide) fun a20 hF20 => ?_
      refine sq (v := (.string ⟨(((s.drop al).take (p - al)) ++ ((s.drop p).take 1)).toArray⟩)) hF20 (wantedS rfl) (run_cat rfl (hF20.ev 20 rfl) (hF20.ev 25 rfl) (by simp; omega)) rfl (by decide) fun a21 hF21 => ?_
      refine sq (v := (.string ⟨(((s.drop al).take (p - al)) ++ ((s.drop p).take 1)).toArray⟩)) hF21 (wantedS rfl) (run_as rfl (hF21.ev 26 rfl)) rfl (by decide) fun a22 hF22 => ?_
      refine sqEnd ?_
      clear hF14 hF15 hF16 hF17 hF18 hF19 hF20 hF21
      refine nx ?_
      refine wp_region_lit ?_
      refine sq (v := (.int .i64 (p : Int))) hF22 (wantedS rfl) (run_mv rfl (hF22.ev 5 rfl)) rfl (by decide) fun a23 hF23 => ?_
      refine sq (v := (.int .i64 ((p + 1 : Nat) : Int))) hF23 (wantedS rfl) (run_add (r := ((p + 1 : Nat) : Int)) rfl (hF23.ev 27 rfl) rfl (by rw [IntKind.wrap_i64]; omega)) rfl (by decide) fun a24 hF24 => ?_
      refine sq (v := (.int .i64 ((p + 1 : Nat) : Int))) hF24 (wantedS rfl) (run_as rfl (hF24.ev 28 rfl)) rfl (by decide) fun a25 hF25 => ?_
      refine sqEnd ?_
      clear hF22 hF23 hF24
      refine bkEnd ?_
      refine nx ?_
      refine ⟨_, by omega, o2, al, p + 1, by omega, by omega, rfl, he, ?_, hM1⟩
      have e : (s.drop al).take (p + 1 - al) = ((s.drop al).take (p - al)) ++ (s.drop p).take 1 := by
        rw [show p + 1 - al = p - al + 1 by omega, List.take_add, List.drop_drop, show al + (p - al) = p by omega]
      rw [e]
      exact hF25.sub ⟨rfl, rfl, rfl, rfl, trivial⟩
    · obtain ⟨g1, g2, g3, g4, g5⟩ := bestS_spec (s := s) (at' := p) (by omega)
      have hms : mostS s p = min 131 (s.length - p) := rfl
      rw [hn, hfr, if_neg h4] at he
      rw [hfr] at g1 g2 g3
      rw [hn] at g5
      have k1 : (UInt8.ofNat (n + 124)).toNat = n + 124 := by rw [UInt8.toNat_ofNat']; omega
      have k2 : (UInt8.ofNat (far % 256)).toNat = far % 256 := by rw [UInt8.toNat_ofNat']; omega
      have k3 : (UInt8.ofNat (far / 256)).toNat = far / 256 := by rw [UInt8.toNat_ofNat']; omega
      have hrl := runS_len _ ((s.drop al).take (p - al)) (Nat.le_refl _)
      rw [hpl] at hrl
      refine wp_seq ?_
      refine wp_seq ?_
      refine wp_region_lit ?_
      refine sq (v := (.int .i64 (p : Int))) hF0 (wantedS rfl) (run_mv rfl (hF0.ev 5 rfl)) rfl (by decide) fun a1 hF1 => ?_
      refine sq (v := (.string ⟨s.toArray⟩)) hF1 (wantedS rfl) (run_mv rfl (hF1.ev 0 rfl)) rfl (by decide) fun a2 hF2 => ?_
      refine sq (v := (.int .i64 (s.length : Int))) hF2 (wantedS rfl) (run_len rfl (hF2.ev 9 rfl) rfl Try.underlying9) rfl (by decide) fun a3 hF3 => ?_
      refine sq (v := (.bool true)) hF3 (wantedS rfl) (run_lss rfl (hF3.ev 8 rfl) (hF3.ev 10 rfl) (decide_eq_true (by omega))) rfl (by decide) fun a4 hF4 => ?_
      refine sqEnd ?_
      clear hF0 hF1 hF2 hF3
      refine nx ?_
      refine wp_cond_true (hF4.ev 11 rfl) ?_
      refine wp_skip ?_
      refine nx ?_
      refine wp_block ?_
      refine wp_seq ?_
      refine wp_region_lit ?_
      refine sq (v := (.string ⟨s.toArray⟩)) hF4 (wantedS rfl) (run_mv rfl (hF4.ev 0 rfl)) rfl (by decide) fun a5 hF5 => ?_
      refine sq (v := (.int .i64 (p : Int))) hF5 (wantedS rfl) (run_mv rfl (hF5.ev 5 rfl)) rfl (by decide) fun a6 hF6 => ?_
      refine sqC (v := (.tuple #[(.int .i64 (n : Int)), (.int .i64 (far : Int))])) hF6 hM0 (wantedS rfl) (run_call rfl Try.func17 (by kernel_rfl) rfl (mapE2 (hF6.ev 13 rfl) (hF6.ev 14 rfl))) rfl (by decide) ((by rw [← hn, ← hfr]; exact rbest_any s p w1 hs (by omega))) fun a7 w2 hb2 hF7 hM1 => ?_
      refine sq (v := (.tuple #[(.int .i64 (n : Int)), (.int .i64 (far : Int))])) hF7 (wantedS rfl) (run_mv rfl (hF7.ev 15 rfl)) rfl (by decide) fun a8 hF8 => ?_
      refine sq (v := (.int .i64 (n : Int))) hF8 (wantedS rfl) (run_ext rfl (hF8.ev 12 rfl) rfl) rfl (by decide) fun a9 hF9 => ?_
      refine sq (v := (.int .i64 (far : Int))) hF9 (wantedS rfl) (run_ext rfl (hF9.ev 12 rfl) rfl) rfl (by decide) fun a10 hF10 => ?_
      refine sq (v := (.int .i64 (n : Int))) hF10 (wantedS rfl) (run_as rfl (hF10.ev 16 rfl)) rfl (by decide) fun a11 hF11 => ?_
      refine sq (v := (.int .i64 (far : Int))) hF11 (wantedS rfl) (run_as rfl (hF11.ev 17 rfl)) rfl (by decide) fun a12 hF12 => ?_
      refine sqEnd ?_
      clear hF4 hF5 hF6 hF7 hF8 hF9 hF10 hF11 hM0
      refine nx ?_
      refine wp_seq ?_
      refine wp_region_lit ?_
      refine sq (v := (.int .i64 (n : Int))) hF12 (wantedS rfl) (run_mv rfl (hF12.ev 6 rfl)) rfl (by decide) fun a13 hF13 => ?_
      refine sq (v := (.bool false)) hF13 (wantedS rfl) (run_lss rfl (hF13.ev 18 rfl) rfl (decide_eq_false (by omega))) rfl (by decide) fun a14 hF14 => ?_
      refine sqEnd ?_
      clear hF12 hF13
      refine nx ?_
      refine wp_cond_false (hF14.ev 19 rfl) ?_
      refine wp_seq ?_
      obtain ⟨KL, hKL⟩ : ∃ KL, KL = [kval (.string ⟨o2.toArray⟩), kval (.string ⟨((s.drop al).take (p - al)).toArray⟩), kval (.string ⟨(runS ((s.drop al).take (p - al))).toArray⟩), kval (.string ⟨(o2 ++ runS ((s.drop al).take (p - al))).toArray⟩), kval (.int .i64 (n : Int)), kval (.int .i64 ((n + 124 : Nat) : Int)), kval (.int .u8 ((UInt8.ofNat (n + 124)).toNat : Int)), kval (.int .i64 (far : Int)), kval (.int .i64 ((far % 256 : Nat) : Int)), kval (.int .u8 ((UInt8.ofNat (far % 256)).toNat : Int)), kval (.int .i64 (far : Int)), kval (.int .i64 ((far / 256 : Nat) : Int)), kval (.int .u8 ((UInt8.ofNat (far / 256)).toNat : Int)), kbytes 5 [(UInt8.ofNat (n + 124)), (UInt8.ofNat (far % 256)), (UInt8.ofNat (far / 256))], kval (.string ⟨List.toArray [(UInt8.ofNat (n + 124)), (UInt8.ofNat (far % 256)), (UInt8.ofNat (far / 256))]⟩), kval (.string ⟨(o2 ++ runS ((s.drop al).take (p - al)) ++ [UInt8.ofNat (n + 124), UInt8.ofNat (far % 256), UInt8.ofNat (far / 256)]).toArray⟩)] := ⟨_, rfl⟩
      have K0 : KL.getD 0 kany = kval (.string ⟨o2.toArray⟩) := by rw [hKL]; rfl
      have K1 : KL.getD 1 kany = kval (.string ⟨((s.drop al).take (p - al)).toArray⟩) := by rw [hKL]; rfl
      have K2 : KL.getD 2 kany = kval (.string ⟨(runS ((s.drop al).take (p - al))).toArray⟩) := by rw [hKL]; rfl
      have K3 : KL.getD 3 kany = kval (.string ⟨(o2 ++ runS ((s.drop al).take (p - al))).toArray⟩) := by rw [hKL]; rfl
      have K4 : KL.getD 4 kany = kval (.int .i64 (n : Int)) := by rw [hKL]; rfl
      have K5 : KL.getD 5 kany = kval (.int .i64 ((n + 124 : Nat) : Int)) := by rw [hKL]; rfl
      have K6 : KL.getD 6 kany = kval (.int .u8 ((UInt8.ofNat (n + 124)).toNat : Int)) := by rw [hKL]; rfl
      have K7 : KL.getD 7 kany = kval (.int .i64 (far : Int)) := by rw [hKL]; rfl
      have K8 : KL.getD 8 kany = kval (.int .i64 ((far % 256 : Nat) : Int)) := by rw [hKL]; rfl
      have K9 : KL.getD 9 kany = kval (.int .u8 ((UInt8.ofNat (far % 256)).toNat : Int)) := by rw [hKL]; rfl
      have K10 : KL.getD 10 kany = kval (.int .i64 (far : Int)) := by rw [hKL]; rfl
      have K11 : KL.getD 11 kany = kval (.int .i64 ((far / 256 : Nat) : Int)) := by rw [hKL]; rfl
      have K12 : KL.getD 12 kany = kval (.int .u8 ((UInt8.ofNat (far / 256)).toNat : Int)) := by rw [hKL]; rfl
      have K13 : KL.getD 13 kany = kbytes 5 [(UInt8.ofNat (n + 124)), (UInt8.ofNat (far % 256)), (UInt8.ofNat (far / 256))] := by rw [hKL]; rfl
      have K14 : KL.getD 14 kany = kval (.string ⟨List.toArray [(UInt8.ofNat (n + 124)), (UInt8.ofNat (far % 256)), (UInt8.ofNat (far / 256))]⟩) := by rw [hKL]; rfl
      have K15 : KL.getD 15 kany = kval (.string ⟨(o2 ++ runS ((s.drop al).take (p - al)) ++ [UInt8.ofNat (n + 124), UInt8.ofNat (far % 256), UInt8.ofNat (far / 256)]).toArray⟩) := by rw [hKL]; rfl
      have HKL : KL.length ≤ 16 := by rw [hKL]; exact Nat.le_refl _
      clear hKL
      refine wp_region_kdTail2 52 16 (by kernel_rfl) (by kernel_rfl) (by kernel_rfl) (by kernel_rfl) hF14.size KL HKL ?_ ?_
      · refine ⟨?_, ?_, ?_, ?_, ?_, ?_, ?_, ?_, ?_, ?_, ?_, ?_, ?_, ?_, ?_, ?_, trivial⟩
        · refine asksH_mk fun a W hS hh hd => ⟨wanted_yes rfl, ?_⟩
          exact giv_run (run_mv rfl (eval_tmp (hh 3 _ rfl (hF14.at 3 rfl)))) K0
        · refine asksH_mk fun a W hS hh hd => ⟨wanted_yes rfl, ?_⟩
          exact giv_run (run_mv rfl (eval_tmp (hh 4 _ rfl (hF14.at 4 rfl)))) K1
        · refine asksH_mk fun a W hS hh hd => ⟨wanted_yes rfl, ?_⟩
          exact giv_call (run_call rfl Try.func18 (by kernel_rfl) rfl (mapE1 (eval_tmp (hd.val (j := 1) (s := 30) (by kernel_rfl) K1)))) (rrun_any ((s.drop al).take (p - al)) W (by omega)) K2
        · refine asksH_mk fun a W hS hh hd => ⟨wanted_yes rfl, ?_⟩
          exact giv_run (run_cat rfl (eval_tmp (hd.val (j := 0) (s := 29) (by kernel_rfl) K0)) (eval_tmp (hd.val (j := 2) (s := 31) (by kernel_rfl) K2)) (by omega)) K3
        · refine asksH_mk fun a W hS hh hd => ⟨wanted_yes rfl, ?_⟩
          exact giv_run (run_mv rfl (eval_tmp (hh 6 _ rfl (hF14.at 6 rfl)))) K4
        · refine asksH_mk fun a W hS hh hd => ⟨wanted_yes rfl, ?_⟩
          exact giv_run (run_add (r := ((n + 124 : Nat) : Int)) rfl (eval_tmp (hd.val (j := 4) (s := 33) (by kernel_rfl) K4)) rfl (by rw [IntKind.wrap_i64]; omega)) K5
        · refine asksH_mk fun a W hS hh hd => ⟨wanted_yes rfl, ?_⟩
          exact giv_run (run_cvI (r := ((UInt8.ofNat (n + 124)).toNat : Int)) rfl (eval_tmp (hd.val (j := 5) (s := 34) (by kernel_rfl) K5)) Try.underlying3 Try.underlying5 (by rw [k1, IntKind.wrap_u8]; omega)) K6
        · refine asksH_mk fun a W hS hh hd => ⟨wanted_yes rfl, ?_⟩
          exact giv_run (run_mv rfl (eval_tmp (hh 7 _ rfl (hF14.at 7 rfl)))) K7
        · refine asksH_mk fun a W hS hh hd => ⟨wanted_yes rfl, ?_⟩
          exact giv_run (run_rem (r := ((far % 256 : Nat) : Int)) rfl (eval_tmp (hd.val (j := 7) (s := 36) (by kernel_rfl) K7)) rfl (by omega) (by rw [Int.tmod_eq_emod_of_nonneg (by omega)]; try omega)) K8
        · refine asksH_mk fun a W hS hh hd => ⟨wanted_yes rfl, ?_⟩
          exact giv_run (run_cvI (r := ((UInt8.ofNat (far % 256)).toNat : Int)) rfl (eval_tmp (hd.val (j := 8) (s := 37) (by kernel_rfl) K8)) Try.underlying3 Try.underlying5 (by rw [k2, IntKind.wrap_u8]; omega)) K9
        · refine asksH_mk fun a W hS hh hd => ⟨wanted_yes rfl, ?_⟩
          exact giv_run (run_mv rfl (eval_tmp (hh 7 _ rfl (hF14.at 7 rfl)))) K10
        · refine asksH_mk fun a W hS hh hd => ⟨wanted_yes rfl, ?_⟩
          exact giv_run (run_quo (r := ((far / 256 : Nat) : Int)) rfl (eval_tmp (hd.val (j := 10) (s := 39) (by kernel_rfl) K10)) rfl (by omega) (by rw [Int.tdiv_eq_ediv_of_nonneg (by omega), IntKind.wrap_i64]; try omega)) K11
        · refine asksH_mk fun a W hS hh hd => ⟨wanted_yes rfl, ?_⟩
          exact giv_run (run_cvI (r := ((UInt8.ofNat (far / 256)).toNat : Int)) rfl (eval_tmp (hd.val (j := 11) (s := 40) (by kernel_rfl) K11)) Try.underlying3 Try.underlying5 (by rw [k3, IntKind.wrap_u8]; omega)) K12
        · refine asksH_mk fun a W hS hh hd => ⟨wanted_yes rfl, ?_⟩
          exact giv_bytes [(UInt8.ofNat (n + 124)), (UInt8.ofNat (far % 256)), (UInt8.ofNat (far / 256))] 5 (run_bytes3 rfl (eval_tmp (hd.val (j := 6) (s := 35) (by kernel_rfl) K6)) (eval_tmp (hd.val (j := 9) (s := 38) (by kernel_rfl) K9)) (eval_tmp (hd.val (j := 12) (s := 41) (by kernel_rfl) K12))) K13
        · refine asksH_mk fun a W hS hh hd => ⟨wanted_yes rfl, ?_⟩
          obtain ⟨g13, c13, e13, b13⟩ := Dep.bytes hd (j := 13) (s := 42) (by kernel_rfl) K13
          exact giv_run (run_cv rfl (eval_tmp e13) (run_strBlk (cap := c13) (l := [(UInt8.ofNat (n + 124)), (UInt8.ofNat (far % 256)), (UInt8.ofNat (far / 256))]) rfl b13)) K14
        · refine asksH_mk fun a W hS hh hd => ⟨wanted_yes rfl, ?_⟩
          exact giv_run (run_cat rfl (eval_tmp (hd.val (j := 3) (s := 32) (by kernel_rfl) K3)) (eval_tmp (hd.val (j := 14) (s := 43) (by kernel_rfl) K14)) (by simp; omega)) K15
      · intro a15 w3 hb3 hK
        have e0 := hK.hval (i := 0) (s := 29) rfl (by kernel_rfl) K0
        have e1 := hK.hval (i := 1) (s := 30) rfl (by kernel_rfl) K1
        have e2 := hK.hval (i := 2) (s := 31) rfl (by kernel_rfl) K2
        have e3 := hK.hval (i := 3) (s := 32) rfl (by kernel_rfl) K3
        have e4 := hK.hval (i := 4) (s := 33) rfl (by kernel_rfl) K4
        have e5 := hK.hval (i := 5) (s := 34) rfl (by kernel_rfl) K5
        have e6 := hK.hval (i := 6) (s := 35) rfl (by kernel_rfl) K6
        have e7 := hK.hval (i := 7) (s := 36) rfl (by kernel_rfl) K7
        have e8 := hK.hval (i := 8) (s := 37) rfl (by kernel_rfl) K8
        have e9 := hK.hval (i := 9) (s := 38) rfl (by kernel_rfl) K9
        have e10 := hK.hval (i := 10) (s := 39) rfl (by kernel_rfl) K10
        have e11 := hK.hval (i := 11) (s := 40) rfl (by kernel_rfl) K11
        have e12 := hK.hval (i := 12) (s := 41) rfl (by kernel_rfl) K12
        obtain ⟨v0, e13, hpv0⟩ := hK.hget (i := 13) (s := 42) rfl (by kernel_rfl)
        rw [K13] at hpv0
        have e14 := hK.hval (i := 14) (s := 43) rfl (by kernel_rfl) K14
        have e15 := hK.hval (i := 15) (s := 44) rfl (by kernel_rfl) K15
        have hF15 : Fr a15 52 [(0, (.string ⟨s.toArray⟩)), (3, (.string ⟨o2.toArray⟩)), (4, (.string ⟨((s.drop al).take (p - al)).toArray⟩)), (5, (.int .i64 (p : Int))), (6, (.int .i64 (n : Int))), (7, (.int .i64 (far : Int))), (8, (.int .i64 (p : Int))), (9, (.string ⟨s.toArray⟩)), (10, (.int .i64 (s.length : Int))), (11, (.bool true)), (12, (.tuple #[(.int .i64 (n : Int)), (.int .i64 (far : Int))])), (13, (.string ⟨s.toArray⟩)), (14, (.int .i64 (p : Int))), (15, (.tuple #[(.int .i64 (n : Int)), (.int .i64 (far : Int))])), (16, (.int .i64 (n : Int))), (17, (.int .i64 (far : Int))), (18, (.int .i64 (n : Int))), (19, (.bool false)), (44, (.string ⟨(o2 ++ runS ((s.drop al).take (p - al)) ++ [UInt8.ofNat (n + 124), UInt8.ofNat (far % 256), UInt8.ofNat (far / 256)]).toArray⟩))] := (hK.hfr hF14 [(.string ⟨o2.toArray⟩), (.string ⟨((s.drop al).take (p - al)).toArray⟩), (.string ⟨(runS ((s.drop al).take (p - al))).toArray⟩), (.string ⟨(o2 ++ runS ((s.drop al).take (p - al))).toArray⟩), (.int .i64 (n : Int)), (.int .i64 ((n + 124 : Nat) : Int)), (.int .u8 ((UInt8.ofNat (n + 124)).toNat : Int)), (.int .i64 (far : Int)), (.int .i64 ((far % 256 : Nat) : Int)), (.int .u8 ((UInt8.ofNat (far % 256)).toNat : Int)), (.int .i64 (far : Int)), (.int .i64 ((far / 256 : Nat) : Int)), (.int .u8 ((UInt8.ofNat (far / 256)).toNat : Int)), v0, (.string ⟨List.toArray [(UInt8.ofNat (n + 124)), (UInt8.ofNat (far % 256)), (UInt8.ofNat (far / 256))]⟩), (.string ⟨(o2 ++ runS ((s.drop al).take (p - al)) ++ [UInt8.ofNat (n + 124), UInt8.ofNat (far % 256), UInt8.ofNat (far / 256)]).toArray⟩)] ⟨e0, e1, e2, e3, e4, e5, e6, e7, e8, e9, e10, e11, e12, e13, e14, e15, trivial⟩).sub ⟨rfl, rfl, rfl, rfl, rfl, rfl, rfl, rfl, rfl, rfl, rfl, rfl, rfl, rfl, rfl, rfl, rfl, rfl, rfl, trivial⟩
        have hM2 := hM1.grow hb3
        clear hK K0 e0 K1 e1 K2 e2 K3 e3 K4 e4 K5 e5 K6 e6 K7 e7 K8 e8 K9 e9 K10 e10 K11 e11 K12 e12 K13 e13 K14 e14 K15 e15 HKL
        simp only [List.drop_succ_cons, List.drop_zero]
        refine sq (v := (.string ⟨(o2 ++ runS ((s.drop al).take (p - al)) ++ [UInt8.ofNat (n + 124), UInt8.ofNat (far % 256), UInt8.ofNat (far / 256)]).toArray⟩)) hF15 (wantedS rfl) (run_as rfl (hF15.ev 44 rfl)) rfl (by decide) fun a16 hF16 => ?_
        refine sqEnd ?_
        clear hF14 hF15 hM1
        refine nx ?_
        refine wp_seq ?_
        refine wp_region_lit ?_
        refine sq (v := (.string ⟨List.toArray []⟩)) hF16 (wantedS rfl) (run_as rfl rfl) rfl (by decide) fun a17 hF17 => ?_
        refine sqEnd ?_
        clear hF16
        refine nx ?_
        refine wp_region_lit ?_
        refine sq (v := (.int .i64 (p : Int))) hF17 (wantedS rfl) (run_mv rfl (hF17.ev 5 rfl)) rfl (by decide) fun a18 hF18 => ?_
        refine sq (v := (.int .i64 (n : Int))) hF18 (wantedS rfl) (run_mv rfl (hF18.ev 6 rfl)) rfl (by decide) fun a19 hF19 => ?_
        refine sq (v := (.int .i64 ((p + n : Nat) : Int))) hF19 (wantedS rfl) (run_add (r := ((p + n : Nat) : Int)) rfl (hF19.ev 45 rfl) (hF19.ev 46 rfl) (by rw [IntKind.wrap_i64]; omega)) rfl (by decide) fun a20 hF20 => ?_
        refine sq (v := (.int .i64 ((p + n : Nat) : Int))) hF20 (wantedS rfl) (run_as rfl (hF20.ev 47 rfl)) rfl (by decide) fun a21 hF21 => ?_
        refine sqEnd ?_
        clear hF17 hF18 hF19 hF20
        refine bkEnd ?_
        refine nx ?_
        refine ⟨_, by omega, o2 ++ runS ((s.drop al).take (p - al)) ++ copyT n far, p + n, p + n, Nat.le_refl _, by omega, rfl, by rw [← he]; simp, ?_, hM2⟩
        rw [Nat.sub_self, List.take_zero]
        exact hF21.sub ⟨rfl, rfl, rfl, rfl, trivial⟩
  · have hpe : p = s.length := by omega
    rw [packT_end al (by omega)] at he
    have hd : ((s.drop al).take (p - al)) = s.drop al := List.take_of_length_le (by rw [List.length_drop]; omega)
    rw [hd] at hF0
    have hrl := runS_len _ (s.drop al) (Nat.le_refl _)
    rw [List.length_drop] at hrl
    refine wp_seq ?_
    refine wp_seq ?_
    refine wp_region_lit ?_
    refine sq (v := (.int .i64 (p : Int))) hF0 (wantedS rfl) (run_mv rfl (hF0.ev 5 rfl)) rfl (by decide) fun a1 hF1 => ?_
    refine sq (v := (.string ⟨s.toArray⟩)) hF1 (wantedS rfl) (run_mv rfl (hF1.ev 0 rfl)) rfl (by decide) fun a2 hF2 => ?_
    refine sq (v := (.int .i64 (s.length : Int))) hF2 (wantedS rfl) (run_len rfl (hF2.ev 9 rfl) rfl Try.underlying9) rfl (by decide) fun a3 hF3 => ?_
    refine sq (v := (.bool false)) hF3 (wantedS rfl) (run_lss rfl (hF3.ev 8 rfl) (hF3.ev 10 rfl) (decide_eq_false (by omega))) rfl (by decide) fun a4 hF4 => ?_
    refine sqEnd ?_
    clear hF0 hF1 hF2 hF3
    refine nx ?_
    refine wp_cond_false (hF4.ev 11 rfl) ?_
    refine wp_exit ?_
    refine nxExit ?_
    refine nxExit ?_
    refine bkHere ?_
    refine nx ?_
    refine wp_seq ?_
    refine wp_region_lit ?_
    refine sq (v := (.string ⟨o2.toArray⟩)) hF4 (wantedS rfl) (run_mv rfl (hF4.ev 3 rfl)) rfl (by decide) fun a5 hF5 => ?_
    refine sq (v := (.string ⟨(s.drop al).toArray⟩)) hF5 (wantedS rfl) (run_mv rfl (hF5.ev 4 rfl)) rfl (by decide) fun a6 hF6 => ?_
    refine sqC (v := (.string ⟨(runS (s.drop al)).toArray⟩)) hF6 hM0 (wantedS rfl) (run_call rfl Try.func18 (by kernel_rfl) rfl (mapE1 (hF6.ev 49 rfl))) rfl (by decide) (rrun_any (s.drop al) w1 (by rw [List.length_drop]; omega)) fun a7 w2 hb2 hF7 hM1 => ?_
    refine sq (v := (.string ⟨(o2 ++ runS (s.drop al)).toArray⟩)) hF7 (wantedS rfl) (run_cat rfl (hF7.ev 48 rfl) (hF7.ev 50 rfl) (by omega)) rfl (by decide) fun a8 hF8 => ?_
    refine sq (v := (.string ⟨(o2 ++ runS (s.drop al)).toArray⟩)) hF8 (wantedS rfl) (run_as rfl (hF8.ev 51 rfl)) rfl (by decide) fun a9 hF9 => ?_
    refine sqEnd ?_
    clear hF4 hF5 hF6 hF7 hF8 hM0
    refine nx ?_
    refine wp_ret ?_
    exact ret1 hF9 rfl rfl ⟨by rw [← he], hM1.below⟩
end Go.Proofs.Ytpobmaklgnioeaa
