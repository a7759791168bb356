/- The walks of the reference's At and Join (layer 6). Printed by gen_key7.py. -/
import Derived.Test.YtconhhhggckcbaaDoorShr4
namespace Go.Proofs.YtconhhhggckcbaaDoor
open Go.RowKit

theorem apart3 {x0 x1 x2 : UInt8} (d01 : x0 ≠ x1) (d02 : x0 ≠ x2) (d12 : x1 ≠ x2) : ∀ i j, i < [x0, x1, x2].length → j < [x0, x1, x2].length → [x0, x1, x2].getD i 0 = [x0, x1, x2].getD j 0 → i = j
  | 0, 0, _, _, _ => rfl
  | 0, 1, _, _, h => absurd h d01
  | 0, 2, _, _, h => absurd h d02
  | 1, 0, _, _, h => absurd h.symm d01
  | 1, 1, _, _, _ => rfl
  | 1, 2, _, _, h => absurd h d12
  | 2, 0, _, _, h => absurd h.symm d02
  | 2, 1, _, _, h => absurd h.symm d12
  | 2, 2, _, _, _ => rfl
  | i + 3, _, hi, _, _ => absurd hi (by simp)
  | 0, j + 3, _, hj, _ => absurd hj (by simp)
  | 1, j + 3, _, hj, _ => absurd hj (by simp)
  | 2, j + 3, _, hj, _ => absurd hj (by simp)
set_option maxRecDepth 100000 in
set_option maxHeartbeats 1000000 in
theorem rat6_any (s0 s1 s2 : Sh) (v : Value) (w : World) (hV : Sl w v 33 3 ([s0, s1, s2].flatMap shareC)) (d01 : s0.x ≠ s1.x) (d02 : s0.x ≠ s2.x) (d12 : s1.x ≠ s2.x) : Calls Tryd.prog 77 #[v, .int .u8 0] w fun e w' => e = .returned (.agg (cells8 (keyT s0 s1 s2 32))) ∧ Below w.heap.size w w' := by
  refine walk_enter Tryd.func77 rfl rfl rfl fun a0 F0 => ?_
  have M0 := Mem.new w
  refine wsl ?_
  refine sqNew (cs := (cells8 (List.replicate 32 0))) (t := 23) F0 M0 (wantedS rfl) (run_alloc rfl (by kernel_rfl)) rfl (by decide) fun g0 a1 w1 hgg0 hb1 F1 M1 => ?_
  refine sn ?_
  clear F0 M0
  refine wsl ?_
  refine sqNew (cs := (cells8 (List.replicate 32 0))) (t := 23) F1 M1 (wantedS rfl) (run_alloc rfl (by kernel_rfl)) rfl (by decide) fun g1 a2 w2 hgg1 hb2 F2 M2 => ?_
  refine sn ?_
  clear F1 M1
  refine wp_seq ?_
  refine wsl ?_
  refine sr (v := (.int .i64 0)) F2 (run_as rfl rfl) rfl rfl rfl fun a3 F3 => ?_
  refine sn ?_
  clear F2
  refine wp_block ?_
  refine wkLoop (fun m a0 w2 => ∃ i : Nat, i ≤ 32 ∧ m = 32 - i ∧ Fr a0 54 [(0, v), (1, .int .u8 0), (4, .pointer (some ⟨g0, 0, none⟩)), (5, .pointer (some ⟨g1, 0, none⟩)), (6, .int .i64 (i : Int))] ∧ Mem w [(g1, isB 23 (cells8 (keyT s0 s1 s2 i))), (g0, isB 23 (cells8 (List.replicate 32 0)))] w2) 32 ⟨0, Nat.zero_le _, rfl, F3.sub ⟨rfl, rfl, rfl, rfl, rfl, trivial⟩, by rw [← keyT_zero]; exact M2⟩ ?_
  rintro m a0 w1 ⟨i, hi, rfl, F0, M0⟩
  have hKl : (keyT s0 s1 s2 i).length = 32 := keyT_len _ _ _ _
  by_cases h1 : i < 32
  · skip
    refine wp_seq ?_
    refine wsl ?_
    refine mvS F0 rfl rfl rfl rfl rfl fun a1 F1 => ?_
    refine sr (v := (.bool true)) F1 (run_lss rfl (F1.ev 9 rfl) rfl (decide_eq_true (by omega))) rfl rfl rfl fun a2 F2 => ?_
    refine sn ?_
    clear F0 F1
    refine cts (F2.ev 10 rfl) ?_
    refine wp_seq ?_
    refine wp_block ?_
    refine wp_seq ?_
    obtain ⟨KL, hKL⟩ : ∃ KL, KL = [kval v, kval (slPtr v (0 * 33)), kval (slPtr v (0 * 33 + 0)), kval (.int .u8 (s0.x.toNat : Int)), kval v, kval (slPtr v (1 * 33)), kval (slPtr v (1 * 33 + 0)), kval (.int .u8 (s1.x.toNat : Int)), kval v, kval (slPtr v (2 * 33)), kval (slPtr v (2 * 33 + 0)), kval (.int .u8 (s2.x.toNat : Int)), kbytes 5 [s0.x, s1.x, s2.x], kval v, kval (.int .i64 (i : Int)), kval (slPtr v (0 * 33)), kval (slPtr v (0 * 33 + 1)), kval (slPtr v (0 * 33 + 1 + i)), kval (.int .u8 ((s0.d.getD i 0).toNat : Int)), kval v, kval (.int .i64 (i : Int)), kval (slPtr v (1 * 33)), kval (slPtr v (1 * 33 + 1)), kval (slPtr v (1 * 33 + 1 + i)), kval (.int .u8 ((s1.d.getD i 0).toNat : Int)), kval v, kval (.int .i64 (i : Int)), kval (slPtr v (2 * 33)), kval (slPtr v (2 * 33 + 1)), kval (slPtr v (2 * 33 + 1 + i)), kval (.int .u8 ((s2.d.getD i 0).toNat : Int)), kbytes 5 [(s0.d.getD i 0), (s1.d.getD i 0), (s2.d.getD i 0)], kval (.int .u8 0), kval (.tuple #[(.int .u8 ((atT [s0.x, s1.x, s2.x] [s0.d.getD i 0, s1.d.getD i 0, s2.d.getD i 0] 0 3).toNat : Int)), (.bool true)]), kval (.tuple #[(.int .u8 ((atT [s0.x, s1.x, s2.x] [s0.d.getD i 0, s1.d.getD i 0, s2.d.getD i 0] 0 3).toNat : Int)), (.bool true)]), kval (.int .u8 ((atT [s0.x, s1.x, s2.x] [s0.d.getD i 0, s1.d.getD i 0, s2.d.getD i 0] 0 3).toNat : Int)), kval (.bool true), kval (.int .u8 ((atT [s0.x, s1.x, s2.x] [s0.d.getD i 0, s1.d.getD i 0, s2.d.getD i 0] 0 3).toNat : Int)), kval (.bool true)] := ⟨_, rfl⟩
    have K0 := getK hKL 0
    have K1 := getK hKL 1
    have K2 := getK hKL 2
    have K3 := getK hKL 3
    have K4 := getK hKL 4
    have K5 := getK hKL 5
    have K6 := getK hKL 6
    have K7 := getK hKL 7
    have K8 := getK hKL 8
    have K9 := getK hKL 9
    have K10 := getK hKL 10
    have K11 := getK hKL 11
    have K12 := getK hKL 12
    have K13 := getK hKL 13
    have K14 := getK hKL 14
    have K15 := getK hKL 15
    have K16 := getK hKL 16
    have K17 := getK hKL 17
    have K18 := getK hKL 18
    have K19 := getK hKL 19
    have K20 := getK hKL 20
    have K21 := getK hKL 21
    have K22 := getK hKL 22
    have K23 := getK hKL 23
    have K24 := getK hKL 24
    have K25 := getK hKL 25
    have K26 := getK hKL 26
    have K27 := getK hKL 27
    have K28 := getK hKL 28
    have K29 := getK hKL 29
    have K30 := getK hKL 30
    have K31 := getK hKL 31
    have K32 := getK hKL 32
    have K33 := getK hKL 33
    have K34 := getK hKL 34
    have K35 := getK hKL 35
    have K36 := getK hKL 36
    have K37 := getK hKL 37
    have K38 := getK hKL 38
    clear hKL
    refine wp_region_kd 54 (by kernel_rfl) (by kernel_rfl) (by kernel_rfl) F2.size KL ?_ ?_
    · refine ⟨?_, ?_, ?_, ?_, ?_, ?_, ?_, ?_, ?_, ?_, ?_, ?_, ?_, ?_, ?_, ?_, ?_, ?_, ?_, ?_, ?_, ?_, ?_, ?_, ?_, ?_, ?_, ?_, ?_, ?_, ?_, ?_, ?_, ?_, ?_, ?_, ?_, ?_, ?_, trivial⟩
      · exact asksY rfl fun a W hS hh hd => giv_run (run_mv rfl (eval_tmp (hh 0 _ rfl (F2.at 0 rfl)))) K0
      · exact asksY rfl fun a W hS hh hd => giv_run (run_atP (i := 0) rfl (eval_tmp (hd.vl 0 14 (by kernel_rfl) K0)) rfl rfl (hV.below (M0.grow hS).below) (by omega) eltSh.un (by kernel_rfl)) K1
      · exact asksY rfl fun a W hS hh hd => giv_run (run_fldP (m2 := 1) (s := 0) rfl (eval_tmp (hd.vl 1 15 (by kernel_rfl) K1)) (hV.below (M0.grow hS).below) (by omega) Tryd.underlying54 rfl rfl (by kernel_rfl) (by decide)) K2
      · exact asksY rfl fun a W hS hh hd => giv_run (run_ldP rfl (eval_tmp (hd.vl 2 16 (by kernel_rfl) K2)) (hV.below (M0.grow hS).below) (flat_at shareC_len (rfl : [s0, s1, s2][0]? = some s0) 0 rfl) (by kernel_rfl)) K3
      · exact asksY rfl fun a W hS hh hd => giv_run (run_mv rfl (eval_tmp (hh 0 _ rfl (F2.at 0 rfl)))) K4
      · exact asksY rfl fun a W hS hh hd => giv_run (run_atP (i := 1) rfl (eval_tmp (hd.vl 4 18 (by kernel_rfl) K4)) rfl rfl (hV.below (M0.grow hS).below) (by omega) eltSh.un (by kernel_rfl)) K5
      · exact asksY rfl fun a W hS hh hd => giv_run (run_fldP (m2 := 1) (s := 0) rfl (eval_tmp (hd.vl 5 19 (by kernel_rfl) K5)) (hV.below (M0.grow hS).below) (by omega) Tryd.underlying54 rfl rfl (by kernel_rfl) (by decide)) K6
      · exact asksY rfl fun a W hS hh hd => giv_run (run_ldP rfl (eval_tmp (hd.vl 6 20 (by kernel_rfl) K6)) (hV.below (M0.grow hS).below) (flat_at shareC_len (rfl : [s0, s1, s2][1]? = some s1) 0 rfl) (by kernel_rfl)) K7
      · exact asksY rfl fun a W hS hh hd => giv_run (run_mv rfl (eval_tmp (hh 0 _ rfl (F2.at 0 rfl)))) K8
      · exact asksY rfl fun a W hS hh hd => giv_run (run_atP (i := 2) rfl (eval_tmp (hd.vl 8 22 (by kernel_rfl) K8)) rfl rfl (hV.below (M0.grow hS).below) (by omega) eltSh.un (by kernel_rfl)) K9
      · exact asksY rfl fun a W hS hh hd => giv_run (run_fldP (m2 := 1) (s := 0) rfl (eval_tmp (hd.vl 9 23 (by kernel_rfl) K9)) (hV.below (M0.grow hS).below) (by omega) Tryd.underlying54 rfl rfl (by kernel_rfl) (by decide)) K10
      · exact asksY rfl fun a W hS hh hd => giv_run (run_ldP rfl (eval_tmp (hd.vl 10 24 (by kernel_rfl) K10)) (hV.below (M0.grow hS).below) (flat_at shareC_len (rfl : [s0, s1, s2][2]? = some s2) 0 rfl) (by kernel_rfl)) K11
      · exact asksY rfl fun a W hS hh hd => giv_bytes [s0.x, s1.x, s2.x] 5 (run_bytes3 rfl (eval_tmp (hd.vl 3 17 (by kernel_rfl) K3)) (eval_tmp (hd.vl 7 21 (by kernel_rfl) K7)) (eval_tmp (hd.vl 11 25 (by kernel_rfl) K11))) K12
      · exact asksY rfl fun a W hS hh hd => giv_run (run_mv rfl (eval_tmp (hh 0 _ rfl (F2.at 0 rfl)))) K13
      · exact asksY rfl fun a W hS hh hd => giv_run (run_mv rfl (eval_tmp (hh 6 _ rfl (F2.at 6 rfl)))) K14
      · exact asksY rfl fun a W hS hh hd => giv_run (run_atP (i := 0) rfl (eval_tmp (hd.vl 13 27 (by kernel_rfl) K13)) rfl rfl (hV.below (M0.grow hS).below) (by omega) eltSh.un (by kernel_rfl)) K15
      · exact asksY rfl fun a W hS hh hd => giv_run (run_fldP (m2 := 32) (s := 1) rfl (eval_tmp (hd.vl 15 29 (by kernel_rfl) K15)) (hV.below (M0.grow hS).below) (by omega) Tryd.underlying54 rfl rfl (by kernel_rfl) (by decide)) K16
      · exact asksY rfl fun a W hS hh hd => giv_run (run_idxP (i := i) (cnt := 32) rfl (eval_tmp (hd.vl 16 30 (by kernel_rfl) K16)) (eval_tmp (hd.vl 14 28 (by kernel_rfl) K14)) rfl (hV.below (M0.grow hS).below) (by omega) (by omega) Tryd.underlying23 (by kernel_rfl)) K17
      · exact asksY rfl fun a W hS hh hd => giv_run (run_ldP rfl (eval_tmp (hd.vl 17 31 (by kernel_rfl) K17)) (hV.below (M0.grow hS).below) (share_at (rfl : [s0, s1, s2][0]? = some s0) h1) (by kernel_rfl)) K18
      · exact asksY rfl fun a W hS hh hd => giv_run (run_mv rfl (eval_tmp (hh 0 _ rfl (F2.at 0 rfl)))) K19
      · exact asksY rfl fun a W hS hh hd => giv_run (run_mv rfl (eval_tmp (hh 6 _ rfl (F2.at 6 rfl)))) K20
      · exact asksY rfl fun a W hS hh hd => giv_run (run_atP (i := 1) rfl (eval_tmp (hd.vl 19 33 (by kernel_rfl) K19)) rfl rfl (hV.below (M0.grow hS).below) (by omega) eltSh.un (by kernel_rfl)) K21
      · exact asksY rfl fun a W hS hh hd => giv_run (run_fldP (m2 := 32) (s := 1) rfl (eval_tmp (hd.vl 21 35 (by kernel_rfl) K21)) (hV.below (M0.grow hS).below) (by omega) Tryd.underlying54 rfl rfl (by kernel_rfl) (by decide)) K22
      · exact asksY rfl fun a W hS hh hd => giv_run (run_idxP (i := i) (cnt := 32) rfl (eval_tmp (hd.vl 22 36 (by kernel_rfl) K22)) (eval_tmp (hd.vl 20 34 (by kernel_rfl) K20)) rfl (hV.below (M0.grow hS).below) (by omega) (by omega) Tryd.underlying23 (by kernel_rfl)) K23
      · exact asksY rfl fun a W hS hh hd => giv_run (run_ldP rfl (eval_tmp (hd.vl 23 37 (by kernel_rfl) K23)) (hV.below (M0.grow hS).below) (share_at (rfl : [s0, s1, s2][1]? = some s1) h1) (by kernel_rfl)) K24
      · exact asksY rfl fun a W hS hh hd => giv_run (run_mv rfl (eval_tmp (hh 0 _ rfl (F2.at 0 rfl)))) K25
      · exact asksY rfl fun a W hS hh hd => giv_run (run_mv rfl (eval_tmp (hh 6 _ rfl (F2.at 6 rfl)))) K26
      · exact asksY rfl fun a W hS hh hd => giv_run (run_atP (i := 2) rfl (eval_tmp (hd.vl 25 39 (by kernel_rfl) K25)) rfl rfl (hV.below (M0.grow hS).below) (by omega) eltSh.un (by kernel_rfl)) K27
      · exact asksY rfl fun a W hS hh hd => giv_run (run_fldP (m2 := 32) (s := 1) rfl (eval_tmp (hd.vl 27 41 (by kernel_rfl) K27)) (hV.below (M0.grow hS).below) (by omega) Tryd.underlying54 rfl rfl (by kernel_rfl) (by decide)) K28
      · exact asksY rfl fun a W hS hh hd => giv_run (run_idxP (i := i) (cnt := 32) rfl (eval_tmp (hd.vl 28 42 (by kernel_rfl) K28)) (eval_tmp (hd.vl 26 40 (by kernel_rfl) K26)) rfl (hV.below (M0.grow hS).below) (by omega) (by omega) Tryd.underlying23 (by kernel_rfl)) K29
      · exact asksY rfl fun a W hS hh hd => giv_run (run_ldP rfl (eval_tmp (hd.vl 29 43 (by kernel_rfl) K29)) (hV.below (M0.grow hS).below) (share_at (rfl : [s0, s1, s2][2]? = some s2) h1) (by kernel_rfl)) K30
      · exact asksY rfl fun a W hS hh hd => giv_bytes [(s0.d.getD i 0), (s1.d.getD i 0), (s2.d.getD i 0)] 5 (run_bytes3 rfl (eval_tmp (hd.vl 18 32 (by kernel_rfl) K18)) (eval_tmp (hd.vl 24 38 (by kernel_rfl) K24)) (eval_tmp (hd.vl 30 44 (by kernel_rfl) K30))) K31
      · exact asksY rfl fun a W hS hh hd => giv_run (run_mv rfl (eval_tmp (hh 1 _ rfl (F2.at 1 rfl)))) K32
      · refine asks_mk fun a W hS hh hd => ⟨wanted_yes rfl, ?_⟩
        obtain ⟨g12, c12, e12, b12⟩ := Dep.bytes hd (j := 12) (s := 26) (by kernel_rfl) K12
        obtain ⟨g31, c31, e31, b31⟩ := Dep.bytes hd (j := 31) (s := 45) (by kernel_rfl) K31
        exact giv_call (run_call rfl Tryd.func55 (by kernel_rfl) rfl (mapE3 (eval_tmp e12) (eval_tmp e31) (eval_tmp (hd.vl 32 46 (by kernel_rfl) K32)))) ((by have h := rat5_any [s0.x, s1.x, s2.x] [s0.d.getD i 0, s1.d.getD i 0, s2.d.getD i 0] (.slice (some ⟨g12, 0, none⟩) 3 c12) (.slice (some ⟨g31, 0, none⟩) 3 c31) 0 W (slOfB rfl b12) (slOfB rfl b31) rfl (by simp) (apart3 d01 d02 d12); rw [show sumA [s0.x, s1.x, s2.x] [s0.d.getD i 0, s1.d.getD i 0, s2.d.getD i 0] 0 [s0.x, s1.x, s2.x].length = atT [s0.x, s1.x, s2.x] [s0.d.getD i 0, s1.d.getD i 0, s2.d.getD i 0] 0 3 from sumA3 _ _ _ _ _ _ _ d01 d02 d12] at h; exact h)) K33
      · exact asksY rfl fun a W hS hh hd => giv_run (run_mv rfl (eval_tmp (hd.vl 33 47 (by kernel_rfl) K33))) K34
      · exact asksY rfl fun a W hS hh hd => giv_run (run_ext rfl (eval_tmp (hd.vl 34 13 (by kernel_rfl) K34)) rfl) K35
      · exact asksY rfl fun a W hS hh hd => giv_run (run_ext rfl (eval_tmp (hd.vl 34 13 (by kernel_rfl) K34)) rfl) K36
      · exact asksY rfl fun a W hS hh hd => giv_run (run_as rfl (eval_tmp (hd.vl 35 48 (by kernel_rfl) K35))) K37
      · exact asksY rfl fun a W hS hh hd => giv_run (run_as rfl (eval_tmp (hd.vl 36 49 (by kernel_rfl) K36))) K38
    · intro a3 w2 hb2 hK
      have e0 := hK.vl 0 14 (by kernel_rfl) K0
      have e1 := hK.vl 1 15 (by kernel_rfl) K1
      have e2 := hK.vl 2 16 (by kernel_rfl) K2
      have e3 := hK.vl 3 17 (by kernel_rfl) K3
      have e4 := hK.vl 4 18 (by kernel_rfl) K4
      have e5 := hK.vl 5 19 (by kernel_rfl) K5
      have e6 := hK.vl 6 20 (by kernel_rfl) K6
      have e7 := hK.vl 7 21 (by kernel_rfl) K7
      have e8 := hK.vl 8 22 (by kernel_rfl) K8
      have e9 := hK.vl 9 23 (by kernel_rfl) K9
      have e10 := hK.vl 10 24 (by kernel_rfl) K10
      have e11 := hK.vl 11 25 (by kernel_rfl) K11
      obtain ⟨v2, e12, hpv2⟩ := hK.get (i := 12) (s := 26) (by kernel_rfl)
      rw [K12] at hpv2
      have e13 := hK.vl 13 27 (by kernel_rfl) K13
      have e14 := hK.vl 14 28 (by kernel_rfl) K14
      have e15 := hK.vl 15 29 (by kernel_rfl) K15
      have e16 := hK.vl 16 30 (by kernel_rfl) K16
      have e17 := hK.vl 17 31 (by kernel_rfl) K17
      have e18 := hK.vl 18 32 (by kernel_rfl) K18
      have e19 := hK.vl 19 33 (by kernel_rfl) K19
      have e20 := hK.vl 20 34 (by kernel_rfl) K20
      have e21 := hK.vl 21 35 (by kernel_rfl) K21
      have e22 := hK.vl 22 36 (by kernel_rfl) K22
      have e23 := hK.vl 23 37 (by kernel_rfl) K23
      have e24 := hK.vl 24 38 (by kernel_rfl) K24
      have e25 := hK.vl 25 39 (by kernel_rfl) K25
      have e26 := hK.vl 26 40 (by kernel_rfl) K26
      have e27 := hK.vl 27 41 (by kernel_rfl) K27
      have e28 := hK.vl 28 42 (by kernel_rfl) K28
      have e29 := hK.vl 29 43 (by kernel_rfl) K29
      have e30 := hK.vl 30 44 (by kernel_rfl) K30
      obtain ⟨v4, e31, hpv4⟩ := hK.get (i := 31) (s := 45) (by kernel_rfl)
      rw [K31] at hpv4
      have e32 := hK.vl 32 46 (by kernel_rfl) K32
      have e33 := hK.vl 33 47 (by kernel_rfl) K33
      have e34 := hK.vl 34 13 (by kernel_rfl) K34
      have e35 := hK.vl 35 48 (by kernel_rfl) K35
      have e36 := hK.vl 36 49 (by kernel_rfl) K36
      have e37 := hK.vl 37 7 (by kernel_rfl) K37
      have e38 := hK.vl 38 8 (by kernel_rfl) K38
      have F3 : Fr a3 54 [(0, v), (1, (.int .u8 0)), (4, (.pointer (some ⟨g0, 0, none⟩))), (5, (.pointer (some ⟨g1, 0, none⟩))), (6, (.int .i64 (i : Int))), (7, (.int .u8 ((atT [s0.x, s1.x, s2.x] [s0.d.getD i 0, s1.d.getD i 0, s2.d.getD i 0] 0 3).toNat : Int))), (9, (.int .i64 (i : Int))), (10, (.bool true))] := (hK.fr F2 [_, _, _, _, _, _, _, _, _, _, _, _, _, _, _, _, _, _, _, _, _, _, _, _, _, _, _, _, _, _, _, _, _, _, _, _, _, _, _] ⟨e0, e1, e2, e3, e4, e5, e6, e7, e8, e9, e10, e11, e12, e13, e14, e15, e16, e17, e18, e19, e20, e21, e22, e23, e24, e25, e26, e27, e28, e29, e30, e31, e32, e33, e34, e35, e36, e37, e38, trivial⟩).sub ⟨rfl, rfl, rfl, rfl, rfl, rfl, rfl, rfl, trivial⟩
      have M1 := M0.grow hb2
      clear hK K0 e0 K1 e1 K2 e2 K3 e3 K4 e4 K5 e5 K6 e6 K7 e7 K8 e8 K9 e9 K10 e10 K11 e11 K12 e12 K13 e13 K14 e14 K15 e15 K16 e16 K17 e17 K18 e18 K19 e19 K20 e20 K21 e21 K22 e22 K23 e23 K24 e24 K25 e25 K26 e26 K27 e27 K28 e28 K29 e29 K30 e30 K31 e31 K32 e32 K33 e33 K34 e34 K35 e35 K36 e36 K37 e37 K38 e38
      clear F2 M0
      refine nx ?_
      refine wp_region_lit ?_
      refine mvS F3 rfl rfl rfl rfl rfl fun a4 F4 => ?_
      refine mvS F4 rfl rfl rfl rfl rfl fun a5 F5 => ?_
      refine sr (v := (.pointer (some ⟨g1, i, none⟩))) F5 (run_idxA (i := i) (cnt := 32) rfl (F5.ev 5 rfl) (F5.ev 50 rfl) rfl (by omega) Tryd.underlying23 (by kernel_rfl)) rfl rfl rfl fun a6 F6 => ?_
      refine sqSetA (j := 0) (l := (keyT s0 s1 s2 i)) F6 M1 rfl rfl rfl (F6.ev 52 rfl) (F6.ev 51 rfl) rfl (by omega) fun a7 w3 F7 M2 => ?_
      refine sqEnd ?_
      clear F3 F4 F5 F6 M1
      refine bkEnd ?_
      refine nx ?_
      refine wp_region_lit ?_
      refine mvS F7 rfl rfl rfl rfl rfl fun a8 F8 => ?_
      refine sr F8 (run_add (r := ((i + 1 : Nat) : Int)) rfl (F8.ev 11 rfl) rfl (by rw [IntKind.wrap_i64]; omega)) rfl rfl rfl fun a9 F9 => ?_
      refine asS F9 rfl rfl rfl rfl rfl fun a10 F10 => ?_
      refine sn ?_
      clear F7 F8 F9
      exact ⟨_, by omega, i + 1, by omega, rfl, F10.sub ⟨rfl, rfl, rfl, rfl, rfl, trivial⟩, by rw [← keyT_step (i := i) rfl]; exact M2⟩
  · have hie : i = 32 := by omega
    subst hie
    refine wp_seq ?_
    refine wsl ?_
    refine mvS F0 rfl rfl rfl rfl rfl fun a1 F1 => ?_
    refine sr (v := (.bool false)) F1 (run_lss rfl (F1.ev 9 rfl) rfl (decide_eq_false (by omega))) rfl rfl rfl fun a2 F2 => ?_
    refine sn ?_
    clear F0 F1
    refine wp_cond_false (F2.ev 10 rfl) ?_
    refine wp_exit ?_
    refine nxExit ?_
    refine nxExit ?_
    refine bkHere ?_
    refine nx ?_
    refine wsl ?_
    refine sr F2 (run_ldB rfl (F2.ev 5 rfl) (M0.at 0 rfl) Tryd.underlying23 rfl sz32k (szOf (keyT_len _ _ _ _))) rfl rfl rfl fun a3 F3 => ?_
    refine sqStore (i := 1) F3 M0 rfl rfl rfl (F3.ev 4 rfl) (F3.ev 53 rfl) rfl sz32k (szOf (keyT_len _ _ _ _)) (szOf List.length_replicate) (cells8_one _) fun a4 w2 F4 M1 => ?_
    refine sn ?_
    clear F2 F3 M0
    refine wp_ret ?_
    exact retB F4 rfl rfl (M1.at 1 rfl) Tryd.underlying23 rfl sz32k (szOf (keyT_len _ _ _ _)) ⟨rfl, M1.below⟩
end Go.Proofs.YtconhhhggckcbaaDoor
