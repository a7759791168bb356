/- The walks of the reference's Third and of the law KeysBlind. Printed by gen_key29.py. -/
import Derived.Test.YtconhhhggckcbaaDoorBlnS
import Derived.Test.YtconhhhggckcbaaDoorRng9
import Derived.Test.YtconhhhggckcbaaDoorShr5
namespace Go.Proofs.YtconhhhggckcbaaDoor
open Go.RowKit

attribute [local irreducible] sealS keyedS nonceS openS
set_option maxRecDepth 100000 in
set_option maxHeartbeats 1000000 in
theorem third_any (k : List UInt8) (s0 s1 : Sh) (z : UInt8) (w : World) (hLk : k.length = 32) (d01 : (0 : UInt8) ≠ s0.x) (d02 : (0 : UInt8) ≠ s1.x) (d12 : s0.x ≠ s1.x) : Calls Tryd.prog 27 #[.agg (cells8 k), .agg (shareC s0).toArray, .agg (shareC s1).toArray, .int .u8 (z.toNat : Int)] w fun e w' => e = .returned (.agg (shareC (thirdS k s0 s1 z)).toArray) ∧ Below w.heap.size w w' := by
  rw [← sb_cells s0, ← sb_cells s1]
  refine walk_enter Tryd.func27 rfl rfl rfl fun a0 F0 => ?_
  have M0 := Mem.new w
  refine wsl ?_
  refine sqNew (cs := (cells8 k)) (t := 23) F0 M0 (wantedS rfl) (run_box rfl (F0.ev 0 rfl)) rfl (by decide) fun g0 a1 w1 hgg0 hb1 F1 M1 => ?_
  refine sqNew (cs := (cells8 (sb s0))) (t := 54) F1 M1 (wantedS rfl) (run_box rfl (F1.ev 1 rfl)) rfl (by decide) fun g1 a2 w2 hgg1 hb2 F2 M2 => ?_
  refine sqNew (cs := (cells8 (sb s1))) (t := 54) F2 M2 (wantedS rfl) (run_box rfl (F2.ev 2 rfl)) rfl (by decide) fun g2 a3 w3 hgg2 hb3 F3 M3 => ?_
  refine sqNew (cs := (cells8 (List.replicate 33 0))) (t := 54) F3 M3 (wantedS rfl) (run_alloc rfl (by kernel_rfl)) rfl (by decide) fun g3 a4 w4 hgg3 hb4 F4 M4 => ?_
  refine sn ?_
  clear F0 F1 F2 F3 M0 M1 M2 M3
  refine wsl ?_
  refine mvS F4 rfl rfl rfl rfl rfl fun a5 F5 => ?_
  refine sr (v := (.agg (cells8 (z :: List.replicate 32 0)))) F5 (run_blt (vs := #[(0, .int .u8 (z.toNat : Int))]) (cs := cells8 (z :: List.replicate 32 0)) rfl (bltE1 (F5.ev 13 rfl)) (built_sh z)) rfl rfl rfl fun a6 F6 => ?_
  refine sqNew (cs := (cells8 (List.replicate 33 0))) (t := 54) F6 M4 (wantedS rfl) (run_alloc rfl (by kernel_rfl)) rfl (by decide) fun g4 a7 w5 hgg4 hb5 F7 M5 => ?_
  refine sqStore (i := 0) F7 M5 rfl rfl rfl (F7.ev 9 rfl) (F7.ev 14 rfl) rfl szSh3 (szOf (by simp)) (szOf List.length_replicate) (cells8_one _) fun a8 w6 F8 M6 => ?_
  refine sn ?_
  clear F4 F5 F6 F7 M4 M5
  refine wp_seq ?_
  refine wsl ?_
  refine sr (v := (.int .i64 0)) F8 (run_as rfl rfl) rfl rfl rfl fun a9 F9 => ?_
  refine sn ?_
  clear F8
  refine wp_block ?_
  refine wkLoop (fun m a0 w2 => ∃ i : Nat, i ≤ 32 ∧ m = 32 - i ∧ Fr a0 46 [(3, (.int .u8 (z.toNat : Int))), (4, (.pointer (some ⟨g0, 0, none⟩))), (5, (.pointer (some ⟨g1, 0, none⟩))), (6, (.pointer (some ⟨g2, 0, none⟩))), (8, (.pointer (some ⟨g3, 0, none⟩))), (9, (.pointer (some ⟨g4, 0, none⟩))), (10, .int .i64 (i : Int))] ∧ Mem w [(g4, isB 54 (cells8 (genT z (fun q => atT [0, s0.x, s1.x] [k.getD q 0, s0.d.getD q 0, s1.d.getD q 0] z 3) i))), (g3, isB 54 (cells8 (List.replicate 33 0))), (g2, isB 54 (cells8 (sb s1))), (g1, isB 54 (cells8 (sb s0))), (g0, isB 23 (cells8 k))] w2) 32 ⟨0, Nat.zero_le _, rfl, F9.sub ⟨rfl, rfl, rfl, rfl, rfl, rfl, rfl, trivial⟩, by rw [← genT_zero]; exact M6⟩ ?_
  rintro m a0 w1 ⟨i, hi, rfl, F0, M0⟩
  by_cases h2 : i < 32
  · have hgl := genT_len z (fun q => atT [0, s0.x, s1.x] [k.getD q 0, s0.d.getD q 0, s1.d.getD q 0] z 3) i
    refine wp_seq ?_
    refine wsl ?_
    refine mvS F0 rfl rfl rfl rfl rfl fun a1 F1 => ?_
    refine sr (v := (.bool true)) F1 (run_lss rfl (F1.ev 15 rfl) rfl (decide_eq_true (by omega))) rfl rfl rfl fun a2 F2 => ?_
    refine sn ?_
    clear F0 F1
    refine cts (F2.ev 16 rfl) ?_
    refine wp_seq ?_
    refine wp_block ?_
    refine wp_seq ?_
    obtain ⟨KL, hKL⟩ : ∃ KL, KL = [kval (.pointer (some ⟨g1, 0, none⟩)), kval (.int .u8 ((bt (sb s0) (0)).toNat : Int)), kval (.pointer (some ⟨g2, 0, none⟩)), kval (.int .u8 ((bt (sb s1) (0)).toNat : Int)), kbytes 5 [0, (bt (sb s0) (0)), (bt (sb s1) (0))], kval (.int .i64 (i : Int)), kval (.pointer (some ⟨g0, i, none⟩)), kval (.int .u8 ((bt k (i)).toNat : Int)), kval (.int .i64 (i : Int)), kval (.pointer (some ⟨g1, 1, none⟩)), kval (.pointer (some ⟨g1, 1 + i, none⟩)), kval (.int .u8 ((bt (sb s0) (1 + i)).toNat : Int)), kval (.int .i64 (i : Int)), kval (.pointer (some ⟨g2, 1, none⟩)), kval (.pointer (some ⟨g2, 1 + i, none⟩)), kval (.int .u8 ((bt (sb s1) (1 + i)).toNat : Int)), kbytes 5 [(bt k (i)), (bt (sb s0) (1 + i)), (bt (sb s1) (1 + i))], kval (.int .u8 (z.toNat : Int)), kval (.tuple #[(.int .u8 ((atT [0, (bt (sb s0) (0)), (bt (sb s1) (0))] [(bt k (i)), (bt (sb s0) (1 + i)), (bt (sb s1) (1 + i))] z 3).toNat : Int)), (.bool true)]), kval (.tuple #[(.int .u8 ((atT [0, (bt (sb s0) (0)), (bt (sb s1) (0))] [(bt k (i)), (bt (sb s0) (1 + i)), (bt (sb s1) (1 + i))] z 3).toNat : Int)), (.bool true)]), kval (.int .u8 ((atT [0, (bt (sb s0) (0)), (bt (sb s1) (0))] [(bt k (i)), (bt (sb s0) (1 + i)), (bt (sb s1) (1 + i))] z 3).toNat : Int)), kval (.bool true), kval (.int .u8 ((atT [0, (bt (sb s0) (0)), (bt (sb s1) (0))] [(bt k (i)), (bt (sb s0) (1 + i)), (bt (sb s1) (1 + i))] z 3).toNat : Int)), kval (.bool true)] := ⟨_, rfl⟩
    have K0 := getK hKL 0
    have K1 := getK hKL 1
    have K2 := getK hKL 2
    have K3 := getK hKL 3
    have K4 := getK hKL 4
    have K5 := getK hKL 5
    have K6 := getK hKL 6
    have K7 := getK hKL 7
    have K8 := getK hKL 8
    have K9 := getK hKL 9
    have K10 := getK hKL 10
    have K11 := getK hKL 11
    have K12 := getK hKL 12
    have K13 := getK hKL 13
    have K14 := getK hKL 14
    have K15 := getK hKL 15
    have K16 := getK hKL 16
    have K17 := getK hKL 17
    have K18 := getK hKL 18
    have K19 := getK hKL 19
    have K20 := getK hKL 20
    have K21 := getK hKL 21
    have K22 := getK hKL 22
    have K23 := getK hKL 23
    clear hKL
    refine wp_region_kd 46 (by kernel_rfl) (by kernel_rfl) (by kernel_rfl) F2.size KL ?_ ?_
    · refine ⟨?_, ?_, ?_, ?_, ?_, ?_, ?_, ?_, ?_, ?_, ?_, ?_, ?_, ?_, ?_, ?_, ?_, ?_, ?_, ?_, ?_, ?_, ?_, ?_, trivial⟩
      · exact asksY rfl fun a W hS hh hd => giv_run (run_fldA (m := 1) (s := 0) rfl (eval_tmp (hh 5 _ rfl (F2.at 5 rfl))) Tryd.underlying54 rfl rfl (by kernel_rfl) (by decide)) K0
      · exact asksY rfl fun a W hS hh hd => giv_run (run_ldF rfl (eval_tmp (hd.vl 0 20 (by kernel_rfl) K0)) ((M0.grow hS).at 3 rfl) (cells8_get (sb s0) (0) (by rw [(sb_len _)]; omega)) (by kernel_rfl)) K1
      · exact asksY rfl fun a W hS hh hd => giv_run (run_fldA (m := 1) (s := 0) rfl (eval_tmp (hh 6 _ rfl (F2.at 6 rfl))) Tryd.underlying54 rfl rfl (by kernel_rfl) (by decide)) K2
      · exact asksY rfl fun a W hS hh hd => giv_run (run_ldF rfl (eval_tmp (hd.vl 2 22 (by kernel_rfl) K2)) ((M0.grow hS).at 2 rfl) (cells8_get (sb s1) (0) (by rw [(sb_len _)]; omega)) (by kernel_rfl)) K3
      · exact asksY rfl fun a W hS hh hd => giv_bytes [0, (bt (sb s0) (0)), (bt (sb s1) (0))] 5 (run_bytes3 rfl rfl (eval_tmp (hd.vl 1 21 (by kernel_rfl) K1)) (eval_tmp (hd.vl 3 23 (by kernel_rfl) K3))) K4
      · exact asksY rfl fun a W hS hh hd => giv_run (run_mv rfl (eval_tmp (hh 10 _ rfl (F2.at 10 rfl)))) K5
      · exact asksY rfl fun a W hS hh hd => giv_run (run_idxA (i := i) (cnt := 32) rfl (eval_tmp (hh 4 _ rfl (F2.at 4 rfl))) (eval_tmp (hd.vl 5 25 (by kernel_rfl) K5)) rfl (by omega) Tryd.underlying23 (by kernel_rfl)) K6
      · exact asksY rfl fun a W hS hh hd => giv_run (run_ldF rfl (eval_tmp (hd.vl 6 26 (by kernel_rfl) K6)) ((M0.grow hS).at 4 rfl) (cells8_get k (i) (by rw [hLk]; omega)) (by kernel_rfl)) K7
      · exact asksY rfl fun a W hS hh hd => giv_run (run_mv rfl (eval_tmp (hh 10 _ rfl (F2.at 10 rfl)))) K8
      · exact asksY rfl fun a W hS hh hd => giv_run (run_fldA (m := 32) (s := 1) rfl (eval_tmp (hh 5 _ rfl (F2.at 5 rfl))) Tryd.underlying54 rfl rfl (by kernel_rfl) (by decide)) K9
      · exact asksY rfl fun a W hS hh hd => giv_run (run_idxO (i := i) (cnt := 32) rfl (eval_tmp (hd.vl 9 29 (by kernel_rfl) K9)) (eval_tmp (hd.vl 8 28 (by kernel_rfl) K8)) rfl (by omega) Tryd.underlying23 (by kernel_rfl)) K10
      · exact asksY rfl fun a W hS hh hd => giv_run (run_ldF rfl (eval_tmp (hd.vl 10 30 (by kernel_rfl) K10)) ((M0.grow hS).at 3 rfl) (cells8_get (sb s0) (1 + i) (by rw [(sb_len _)]; omega)) (by kernel_rfl)) K11
      · exact asksY rfl fun a W hS hh hd => giv_run (run_mv rfl (eval_tmp (hh 10 _ rfl (F2.at 10 rfl)))) K12
      · exact asksY rfl fun a W hS hh hd => giv_run (run_fldA (m := 32) (s := 1) rfl (eval_tmp (hh 6 _ rfl (F2.at 6 rfl))) Tryd.underlying54 rfl rfl (by kernel_rfl) (by decide)) K13
      · exact asksY rfl fun a W hS hh hd => giv_run (run_idxO (i := i) (cnt := 32) rfl (eval_tmp (hd.vl 13 33 (by kernel_rfl) K13)) (eval_tmp (hd.vl 12 32 (by kernel_rfl) K12)) rfl (by omega) Tryd.underlying23 (by kernel_rfl)) K14
      · exact asksY rfl fun a W hS hh hd => giv_run (run_ldF rfl (eval_tmp (hd.vl 14 34 (by kernel_rfl) K14)) ((M0.grow hS).at 2 rfl) (cells8_get (sb s1) (1 + i) (by rw [(sb_len _)]; omega)) (by kernel_rfl)) K15
      · exact asksY rfl fun a W hS hh hd => giv_bytes [(bt k (i)), (bt (sb s0) (1 + i)), (bt (sb s1) (1 + i))] 5 (run_bytes3 rfl (eval_tmp (hd.vl 7 27 (by kernel_rfl) K7)) (eval_tmp (hd.vl 11 31 (by kernel_rfl) K11)) (eval_tmp (hd.vl 15 35 (by kernel_rfl) K15))) K16
      · exact asksY rfl fun a W hS hh hd => giv_run (run_mv rfl (eval_tmp (hh 3 _ rfl (F2.at 3 rfl)))) K17
      · refine asks_mk fun a W hS hh hd => ⟨wanted_yes rfl, ?_⟩
        obtain ⟨g4, c4, e4, b4⟩ := Dep.bytes hd (j := 4) (s := 24) (by kernel_rfl) K4
        obtain ⟨g16, c16, e16, b16⟩ := Dep.bytes hd (j := 16) (s := 36) (by kernel_rfl) K16
        exact giv_call (run_call rfl Tryd.func55 (by kernel_rfl) rfl (mapE3 (eval_tmp e4) (eval_tmp e16) (eval_tmp (hd.vl 17 37 (by kernel_rfl) K17)))) ((by have h := rat5_any [0, (bt (sb s0) (0)), (bt (sb s1) (0))] [(bt k (i)), (bt (sb s0) (1 + i)), (bt (sb s1) (1 + i))] (.slice (some ⟨g4, 0, none⟩) 3 c4) (.slice (some ⟨g16, 0, none⟩) 3 c16) z W (slOfB rfl b4) (slOfB rfl b16) rfl (by simp) (apart3 d01 d02 d12); rw [show sumA [0, (bt (sb s0) (0)), (bt (sb s1) (0))] [(bt k (i)), (bt (sb s0) (1 + i)), (bt (sb s1) (1 + i))] z [0, (bt (sb s0) (0)), (bt (sb s1) (0))].length = atT [0, (bt (sb s0) (0)), (bt (sb s1) (0))] [(bt k (i)), (bt (sb s0) (1 + i)), (bt (sb s1) (1 + i))] z 3 from sumA3 _ _ _ _ _ _ _ d01 d02 d12] at h; exact h)) K18
      · exact asksY rfl fun a W hS hh hd => giv_run (run_mv rfl (eval_tmp (hd.vl 18 38 (by kernel_rfl) K18))) K19
      · exact asksY rfl fun a W hS hh hd => giv_run (run_ext rfl (eval_tmp (hd.vl 19 19 (by kernel_rfl) K19)) rfl) K20
      · exact asksY rfl fun a W hS hh hd => giv_run (run_ext rfl (eval_tmp (hd.vl 19 19 (by kernel_rfl) K19)) rfl) K21
      · exact asksY rfl fun a W hS hh hd => giv_run (run_as rfl (eval_tmp (hd.vl 20 39 (by kernel_rfl) K20))) K22
      · exact asksY rfl fun a W hS hh hd => giv_run (run_as rfl (eval_tmp (hd.vl 21 40 (by kernel_rfl) K21))) K23
    · intro a3 w2 hb2 hK
      have e0 := hK.vl 0 20 (by kernel_rfl) K0
      have e1 := hK.vl 1 21 (by kernel_rfl) K1
      have e2 := hK.vl 2 22 (by kernel_rfl) K2
      have e3 := hK.vl 3 23 (by kernel_rfl) K3
      obtain ⟨v5, e4, hpv5⟩ := hK.get (i := 4) (s := 24) (by kernel_rfl)
      rw [K4] at hpv5
      have e5 := hK.vl 5 25 (by kernel_rfl) K5
      have e6 := hK.vl 6 26 (by kernel_rfl) K6
      have e7 := hK.vl 7 27 (by kernel_rfl) K7
      have e8 := hK.vl 8 28 (by kernel_rfl) K8
      have e9 := hK.vl 9 29 (by kernel_rfl) K9
      have e10 := hK.vl 10 30 (by kernel_rfl) K10
      have e11 := hK.vl 11 31 (by kernel_rfl) K11
      have e12 := hK.vl 12 32 (by kernel_rfl) K12
      have e13 := hK.vl 13 33 (by kernel_rfl) K13
      have e14 := hK.vl 14 34 (by kernel_rfl) K14
      have e15 := hK.vl 15 35 (by kernel_rfl) K15
      obtain ⟨v7, e16, hpv7⟩ := hK.get (i := 16) (s := 36) (by kernel_rfl)
      rw [K16] at hpv7
      have e17 := hK.vl 17 37 (by kernel_rfl) K17
      have e18 := hK.vl 18 38 (by kernel_rfl) K18
      have e19 := hK.vl 19 19 (by kernel_rfl) K19
      have e20 := hK.vl 20 39 (by kernel_rfl) K20
      have e21 := hK.vl 21 40 (by kernel_rfl) K21
      have e22 := hK.vl 22 11 (by kernel_rfl) K22
      have e23 := hK.vl 23 12 (by kernel_rfl) K23
      have F3 : Fr a3 46 [(3, (.int .u8 (z.toNat : Int))), (4, (.pointer (some ⟨g0, 0, none⟩))), (5, (.pointer (some ⟨g1, 0, none⟩))), (6, (.pointer (some ⟨g2, 0, none⟩))), (8, (.pointer (some ⟨g3, 0, none⟩))), (9, (.pointer (some ⟨g4, 0, none⟩))), (10, (.int .i64 (i : Int))), (11, (.int .u8 ((atT [0, (bt (sb s0) (0)), (bt (sb s1) (0))] [(bt k (i)), (bt (sb s0) (1 + i)), (bt (sb s1) (1 + i))] z 3).toNat : Int))), (15, (.int .i64 (i : Int))), (16, (.bool true))] := (hK.fr F2 [_, _, _, _, _, _, _, _, _, _, _, _, _, _, _, _, _, _, _, _, _, _, _, _] ⟨e0, e1, e2, e3, e4, e5, e6, e7, e8, e9, e10, e11, e12, e13, e14, e15, e16, e17, e18, e19, e20, e21, e22, e23, trivial⟩).sub ⟨rfl, rfl, rfl, rfl, rfl, rfl, rfl, rfl, rfl, rfl, trivial⟩
      have M1 := M0.grow hb2
      clear hK K0 e0 K1 e1 K2 e2 K3 e3 K4 e4 K5 e5 K6 e6 K7 e7 K8 e8 K9 e9 K10 e10 K11 e11 K12 e12 K13 e13 K14 e14 K15 e15 K16 e16 K17 e17 K18 e18 K19 e19 K20 e20 K21 e21 K22 e22 K23 e23
      clear F2 M0
      refine nx ?_
      refine wp_region_lit ?_
      refine mvS F3 rfl rfl rfl rfl rfl fun a4 F4 => ?_
      refine mvS F4 rfl rfl rfl rfl rfl fun a5 F5 => ?_
      refine sr F5 (run_fldA (m := 32) (s := 1) rfl (F5.ev 9 rfl) Tryd.underlying54 rfl rfl (by kernel_rfl) (by decide)) rfl rfl rfl fun a6 F6 => ?_
      refine sr (v := (.pointer (some ⟨g4, 1 + i, none⟩))) F6 (run_idxO (i := i) (cnt := 32) rfl (F6.ev 43 rfl) (F6.ev 41 rfl) rfl (by omega) Tryd.underlying23 (by kernel_rfl)) rfl rfl rfl fun a7 F7 => ?_
      refine sqSetA (j := 0) (l := (genT z (fun q => atT [0, s0.x, s1.x] [k.getD q 0, s0.d.getD q 0, s1.d.getD q 0] z 3) i)) F7 M1 rfl rfl rfl (F7.ev 44 rfl) (F7.ev 42 rfl) rfl (by omega) fun a8 w3 F8 M2 => ?_
      refine sqEnd ?_
      clear F3 F4 F5 F6 F7 M1
      refine bkEnd ?_
      refine nx ?_
      refine wp_region_lit ?_
      refine mvS F8 rfl rfl rfl rfl rfl fun a9 F9 => ?_
      refine sr F9 (run_add (r := ((i + 1 : Nat) : Int)) rfl (F9.ev 17 rfl) rfl (by rw [IntKind.wrap_i64]; omega)) rfl rfl rfl fun a10 F10 => ?_
      refine asS F10 rfl rfl rfl rfl rfl fun a11 F11 => ?_
      refine sn ?_
      clear F8 F9 F10
      exact ⟨_, by omega, i + 1, by omega, rfl, F11.sub ⟨rfl, rfl, rfl, rfl, rfl, rfl, rfl, trivial⟩, by rw [← genT_step z (fun q => atT [0, s0.x, s1.x] [k.getD q 0, s0.d.getD q 0, s1.d.getD q 0] z 3) (i := i) (b := atT [0, bt (sb s0) (0), bt (sb s1) (0)] [bt k (i), bt (sb s0) (1 + i), bt (sb s1) (1 + i)] z 3) (by rw [sb_bt s0 h2, sb_bt s1 h2]; rfl)]; exact M2⟩
  · obtain rfl : i = 32 := by omega
    refine wp_seq ?_
    refine wsl ?_
    refine mvS F0 rfl rfl rfl rfl rfl fun a1 F1 => ?_
    refine sr (v := (.bool false)) F1 (run_lss rfl (F1.ev 15 rfl) rfl (decide_eq_false (by omega))) rfl rfl rfl fun a2 F2 => ?_
    refine sn ?_
    clear F0 F1
    refine wp_cond_false (F2.ev 16 rfl) ?_
    refine wp_exit ?_
    refine nxExit ?_
    refine nxExit ?_
    refine bkHere ?_
    refine nx ?_
    refine wsl ?_
    refine sr F2 (run_ldB rfl (F2.ev 9 rfl) (M0.at 0 rfl) Tryd.underlying54 rfl szSh3 (szOf (genT_len _ _ _))) rfl rfl rfl fun a3 F3 => ?_
    refine sqStore (i := 1) F3 M0 rfl rfl rfl (F3.ev 8 rfl) (F3.ev 45 rfl) rfl szSh3 (szOf (genT_len _ _ _)) (szOf List.length_replicate) (cells8_one _) fun a4 w2 F4 M1 => ?_
    refine sn ?_
    clear F2 F3 M0
    refine wp_ret ?_
    exact retV F4 (results_L F4 rfl rfl (loadVar_all (M1.at 1 rfl) Tryd.underlying54 rfl szSh3 (szOf (genT_len _ _ _))) ) ⟨by rw [thirdS, ← genT_cells], M1.below⟩
set_option maxRecDepth 100000 in
set_option maxHeartbeats 1000000 in
theorem lawBlind_any (k k2 nz : List UInt8) (b : UInt8) (w : World) (HG : Glob w) (hLk : k.length = 32) (hLk2 : k2.length = 32) (hLnz : nz.length = 64) : Calls Tryd.prog 7 #[.agg (cells8 k), .agg (cells8 k2), .agg (cells8 nz), .int .u8 (b.toNat : Int)] w fun e w' => e = .returned (.bool true) ∧ Below w.heap.size w w' := by
  have hb8 := b.toNat_lt
  have hk1 : ∀ x ∈ [k], x.length = 32 := fun x hx => by rw [List.mem_singleton.1 hx]; exact hLk
  have hkk : ∀ x ∈ [k, k2], x.length = 32 := fun x hx => by
    rcases List.mem_cons.1 hx with rfl | hx
    · exact hLk
    · rw [List.mem_singleton.1 hx]; exact hLk2
  obtain ⟨qa, hqa, hqa4⟩ : ∃ q, b.toNat % 4 = q ∧ q < 4 := ⟨_, rfl, Nat.mod_lt _ (by decide)⟩
  have d01 : (0 : UInt8) ≠ (shOf k nz qa).x := fun h => ofNat_ne0 (i := qa) (by omega) h.symm
  have d02 : (0 : UInt8) ≠ (shOf k nz (qa + 1)).x := fun h => ofNat_ne0 (i := qa + 1) (by omega) h.symm
  have d12 : (shOf k nz qa).x ≠ (shOf k nz (qa + 1)).x := fun h => by have := ofNat_inj5 (by omega) (by omega) h; omega
  have hz7 : ∀ i, i < 5 → UInt8.ofNat (i + 1) ≠ 7 := by decide
  have hJ : joinT [shOf k nz qa, shOf k nz (qa + 1), thirdS k2 (shOf k nz qa) (shOf k nz (qa + 1)) 7] = some k2 := third_join hLk2 d01.symm d02.symm (by decide) d12 (hz7 _ (by omega)) (hz7 _ (by omega))
  refine walk_enter Tryd.func7 rfl rfl rfl fun a0 F0 => ?_
  have M0 := Mem.new w
  refine wsl ?_
  refine sqNew (cs := (cells8 k)) (t := 23) F0 M0 (wantedS rfl) (run_box rfl (F0.ev 0 rfl)) rfl (by decide) fun g0 a1 w1 hgg0 hb1 F1 M1 => ?_
  refine sqNew (cs := (cells8 k2)) (t := 23) F1 M1 (wantedS rfl) (run_box rfl (F1.ev 1 rfl)) rfl (by decide) fun g1 a2 w2 hgg1 hb2 F2 M2 => ?_
  refine sqNew (cs := (cells8 nz)) (t := 46) F2 M2 (wantedS rfl) (run_box rfl (F2.ev 2 rfl)) rfl (by decide) fun g2 a3 w3 hgg2 hb3 F3 M3 => ?_
  refine sr (v := (.bool false)) F3 (run_as rfl rfl) rfl rfl rfl fun a4 F4 => ?_
  refine sn ?_
  clear F0 F1 F2 F3 M0 M1 M2
  refine wp_seq ?_
  refine wsl ?_
  refine sqC (v := (.bool true)) F4 M3 (wantedS rfl) (run_call rfl Tryd.func12 (by kernel_rfl) rfl (mapE0 )) rfl (by decide) (alive38_any w3 (HG.below M3.below)) fun a5 w4 hb4 F5 M4 => ?_
  refine sr (v := (.bool false)) F5 (run_not rfl (F5.ev 20 rfl)) rfl rfl rfl fun a6 F6 => ?_
  refine sn ?_
  clear F4 F5 M3
  refine cfs (F6.ev 21 rfl) ?_
  refine wp_seq ?_
  refine wp_region_p 94 [.val (.agg (cells8 k)), .val (.slice (some ⟨g2, 0, none⟩) 64 64), .val (.string ⟨nz.toArray⟩), .tup4 (.st (.row 76 33 ((ringS [k]).length) ((ringS [k]).flatMap epF))) (.st (.row 23 32 ([k].length) ([k].flatMap dgC))) (.row 54 33 ((shS k nz).length) ((shS k nz).flatMap shareC)) (.val (.int .i64 0)), .tup4 (.st (.row 76 33 ((ringS [k]).length) ((ringS [k]).flatMap epF))) (.st (.row 23 32 ([k].length) ([k].flatMap dgC))) (.row 54 33 ((shS k nz).length) ((shS k nz).flatMap shareC)) (.val (.int .i64 0)), .st (.row 76 33 ((ringS [k]).length) ((ringS [k]).flatMap epF)), .st (.row 23 32 ([k].length) ([k].flatMap dgC)), .row 54 33 ((shS k nz).length) ((shS k nz).flatMap shareC), .val (.int .i64 0), .any, .any, .any, .any, .row 54 33 ((shS k nz).length) ((shS k nz).flatMap shareC), .val (.int .i64 0)] [] [⟨9, 9, 11, 27, #[.slice none 0 0], .st (.row 76 33 ((ringS [k]).length) ((ringS [k]).flatMap epF))⟩, ⟨10, 10, 12, 30, #[.slice none 0 0], .st (.row 23 32 ([k].length) ([k].flatMap dgC))⟩] [] [] (by kernel_rfl) (by kernel_rfl) F6.size ?_ ?_ ?_ ?_ (by kernel_rfl) ?_ fun a7 w5 gs hI => ?_
  · intro d hd
    simp only [List.mem_cons, List.not_mem_nil, or_false] at hd
    rcases hd with rfl | rfl <;> exact ⟨Nat.le_of_ble_eq_true (by kernel_rfl), _, rfl, rfl⟩
  · intro b hb
    cases hb
  · intro x y b c hx hy hne
    simp at hx
  · intro r hr
    cases hr
  · refine ⟨?_, ?_, ?_, ?_, ?_, ?_, ?_, ?_, ?_, ?_, ?_, ?_, ?_, ?_, ?_, trivial⟩
    · refine .val 23 rfl (by simp) (by simp) (by simp) fun a W hK hh hd => ⟨wanted_yes rfl, ?_⟩
      exact givz_run (run_ldB rfl (eval_tmp (hh 4 _ rfl (F6.at 4 rfl))) ((M4.grow hK.below).at 2 rfl) Tryd.underlying23 rfl sz32k (szOf hLk)) rfl
    · refine .val 24 rfl (by simp) (by simp) (by simp) fun a W hK hh hd => ⟨wanted_yes rfl, ?_⟩
      exact givz_run (run_slA rfl (eval_tmp (hh 6 _ rfl (F6.at 6 rfl))) (run_sliceArr_all (P := Tryd.prog) Tryd.underlying46 so8 g2 0 (by decide) _)) rfl
    · refine .val 25 rfl (by simp) (by simp) (by simp) fun a W hK hh hd => ⟨wanted_yes rfl, ?_⟩
      exact givz_run (run_cv rfl (eval_tmp (hd.valz (j := 1) (s := 24) (by kernel_rfl) (by simp) rfl rfl)) (run_strBlk (l := nz) hLnz ((M4.grow hK.below).at 0 rfl))) rfl
    · refine .val 26 rfl (by simp) (by simp) (by simp) fun a W hK hh hd => ⟨wanted_yes rfl, ?_⟩
      exact givz_call (run_call rfl Tryd.func13 (by kernel_rfl) rfl (mapE2 (eval_tmp (hd.valz (j := 0) (s := 23) (by kernel_rfl) (by simp) rfl rfl)) (eval_tmp (hd.valz (j := 2) (s := 25) (by kernel_rfl) (by simp) rfl rfl)))) hK.size ((by have h := kmake_any k nz W (HG.below (M4.grow hK.below).below) hLk; rw [(make_ok hLnz)] at h; exact h))
    · refine .val 22 rfl (by simp) (by simp) (by simp) fun a W hK hh hd => ⟨wanted_yes rfl, ?_⟩
      obtain ⟨_, ey3, ⟨_, _, vz_4_3c, _, rfl, ⟨vz_4_3a, rfl, hz_4_3a⟩, ⟨vz_4_3b, rfl, hz_4_3b⟩, hz_4_3c, rfl⟩⟩ := hd.getz (j := 3) (s := 26) (by kernel_rfl) (by simp) rfl rfl
      exact givz_run (run_mv rfl (eval_tmp ey3)) ⟨_, _, _, _, rfl, ⟨_, rfl, hz_4_3a⟩, ⟨_, rfl, hz_4_3b⟩, hz_4_3c, rfl⟩
    · refine .val 27 rfl (by simp) (by simp) (by simp) fun a W hK hh hd => ⟨wanted_yes rfl, ?_⟩
      obtain ⟨_, ey4, ⟨_, _, vz_5_4c, _, rfl, ⟨vz_5_4a, rfl, hz_5_4a⟩, ⟨vz_5_4b, rfl, hz_5_4b⟩, hz_5_4c, rfl⟩⟩ := hd.getz (j := 4) (s := 22) (by kernel_rfl) (by simp) rfl rfl
      exact givz_run (run_ext rfl (eval_tmp ey4) rfl) ⟨_, rfl, hz_5_4a⟩
    · refine .val 28 rfl (by simp) (by simp) (by simp) fun a W hK hh hd => ⟨wanted_yes rfl, ?_⟩
      obtain ⟨_, ey4, ⟨_, _, vz_6_4c, _, rfl, ⟨vz_6_4a, rfl, hz_6_4a⟩, ⟨vz_6_4b, rfl, hz_6_4b⟩, hz_6_4c, rfl⟩⟩ := hd.getz (j := 4) (s := 22) (by kernel_rfl) (by simp) rfl rfl
      exact givz_run (run_ext rfl (eval_tmp ey4) rfl) ⟨_, rfl, hz_6_4b⟩
    · refine .val 29 rfl (by simp) (by simp) (by simp) fun a W hK hh hd => ⟨wanted_yes rfl, ?_⟩
      obtain ⟨_, ey4, ⟨_, _, vz_7_4c, _, rfl, ⟨vz_7_4a, rfl, hz_7_4a⟩, ⟨vz_7_4b, rfl, hz_7_4b⟩, hz_7_4c, rfl⟩⟩ := hd.getz (j := 4) (s := 22) (by kernel_rfl) (by simp) rfl rfl
      exact givz_run (run_ext rfl (eval_tmp ey4) rfl) hz_7_4c
    · refine .val 30 rfl (by simp) (by simp) (by simp) fun a W hK hh hd => ⟨wanted_yes rfl, ?_⟩
      obtain ⟨_, ey4, ⟨_, _, vz_8_4c, _, rfl, ⟨vz_8_4a, rfl, hz_8_4a⟩, ⟨vz_8_4b, rfl, hz_8_4b⟩, hz_8_4c, rfl⟩⟩ := hd.getz (j := 4) (s := 22) (by kernel_rfl) (by simp) rfl rfl
      exact givz_run (run_ext rfl (eval_tmp ey4) rfl) rfl
    · exact .new 0 _ rfl rfl rfl (by simp) (by simp) (by simp) (fun y e hy he => by rcases y with _ | _ | y <;> simp at hy <;> (try subst hy) <;> simp at he ⊢) fun a W => ⟨wanted_yes rfl, run_alloc rfl (by kernel_rfl)⟩
    · exact .new 1 _ rfl rfl rfl (by simp) (by simp) (by simp) (fun y e hy he => by rcases y with _ | _ | y <;> simp at hy <;> (try subst hy) <;> simp at he ⊢) fun a W => ⟨wanted_yes rfl, run_alloc rfl (by kernel_rfl)⟩
    · refine .put 0 _ rfl rfl rfl (by simp) (by simp) (by simp) (fun y e hy he => by rcases y with _ | _ | y <;> simp at hy <;> (try subst hy) <;> simp at he ⊢) (by kernel_rfl) 1 27 _ _ rfl rfl (fun a W hK hh hd => ?_) rfl szRg rfl
      obtain ⟨_, ey5, ⟨vz_11_5, rfl, hz_11_5⟩⟩ := hd.getz (j := 5) (s := 27) (by kernel_rfl) (by simp) rfl rfl
      rw [show a.eval _ = _ from (eval_tmp ey5)]
      exact ⟨⟨_, rfl, hz_11_5⟩, rfl, (one_own hz_11_5)⟩
    · refine .put 1 _ rfl rfl rfl (by simp) (by simp) (by simp) (fun y e hy he => by rcases y with _ | _ | y <;> simp at hy <;> (try subst hy) <;> simp at he ⊢) (by kernel_rfl) 1 30 _ _ rfl rfl (fun a W hK hh hd => ?_) rfl szKy rfl
      obtain ⟨_, ey6, ⟨vz_12_6, rfl, hz_12_6⟩⟩ := hd.getz (j := 6) (s := 28) (by kernel_rfl) (by simp) rfl rfl
      rw [show a.eval _ = _ from (eval_tmp ey6)]
      exact ⟨⟨_, rfl, hz_12_6⟩, rfl, (one_own hz_12_6)⟩
    · refine .val 11 rfl (by simp) (by simp) (by simp) fun a W hK hh hd => ⟨wanted_yes rfl, ?_⟩
      obtain ⟨vz_13_7, ey7, hz_13_7⟩ := hd.getz (j := 7) (s := 29) (by kernel_rfl) (by simp) rfl rfl
      exact givz_run (run_as rfl (eval_tmp ey7)) hz_13_7
    · refine .val 12 rfl (by simp) (by simp) (by simp) fun a W hK hh hd => ⟨wanted_yes rfl, ?_⟩
      exact givz_run (run_as rfl (eval_tmp (hd.valz (j := 8) (s := 30) (by kernel_rfl) (by simp) rfl rfl))) rfl
  obtain ⟨vz3_, e11_, hz3_⟩ := hI.val 13 _ 11 rfl rfl rfl (by simp) (fun _ h => by cases h)
  have e12_ : a7.tmps[12]? = some (.int .i64 0) := by
    obtain ⟨vq, hq1, hq2⟩ := hI.val 14 _ 12 rfl rfl rfl (by simp) (fun _ h => by cases h)
    rw [hq1]
    exact congrArg some hq2
  obtain ⟨pg4, qg4, _, fg4⟩ := hI.blk 0 _ rfl rfl
  obtain ⟨pg5, qg5, _, fg5⟩ := hI.blk 1 _ rfl rfl
  have neg5 := hI.apart 0 1 _ _ rfl rfl (by decide) rfl rfl
  generalize gs 0 = g4 at pg4 qg4 fg4 neg5
  generalize gs 1 = g5 at pg5 qg5 fg5 neg5
  obtain ⟨_, Bg4, ⟨vz6_, rfl, hz6_⟩⟩ := fg4 rfl
  have Bg4 : Blk w5 g4 27 (#[vz6_]) := Bg4
  obtain ⟨_, Bg5, ⟨vz7_, rfl, hz7_⟩⟩ := fg5 rfl
  have Bg5 : Blk w5 g5 30 (#[vz7_]) := Bg5
  have hb5 := KeepW.below hI.keep
  have M5 := M4.grow hb5
  have hO1 := OwnR.ofCall M4 (show World.ownsRow w5 _ 54 33 vz3_ ((shS k nz).length) ((shS k nz).flatMap shareC) from hz3_)
  have hO2 := OwnR.ofCall M4 (show World.ownsRow w5 _ 76 33 vz6_ ((ringS [k]).length) ((ringS [k]).flatMap epF) from hz6_)
  have hO3 := OwnR.ofCall M4 (show World.ownsRow w5 _ 23 32 vz7_ ([k].length) ([k].flatMap dgC) from hz7_)
  have hO4 := hO1.addFar (S := isB 27 (#[vz6_])) (own_ne_ty hO1.owns Bg4 (by kernel_rfl))
  have hO5 := hO2.addFar (S := isB 27 (#[vz6_])) (own_ne_ty hO2.owns Bg4 (by kernel_rfl))
  have hO6 := hO3.addFar (S := isB 27 (#[vz6_])) (own_ne_ty hO3.owns Bg4 (by kernel_rfl))
  have M6 := M5.put1 (cs := #[vz6_]) (Nat.le_trans M4.below.size qg4) Bg4 (mem_far_new M4 qg4)
  have hO7 := hO4.addFar (S := isB 30 (#[vz7_])) (own_ne_ty hO4.owns Bg5 (by kernel_rfl))
  have hO8 := hO5.addFar (S := isB 30 (#[vz7_])) (own_ne_ty hO5.owns Bg5 (by kernel_rfl))
  have hO9 := hO6.addFar (S := isB 30 (#[vz7_])) (own_ne_ty hO6.owns Bg5 (by kernel_rfl))
  have M7 := M6.put1 (cs := #[vz7_]) (Nat.le_trans M4.below.size qg5) Bg5 (far_cons neg5 (mem_far_new M4 qg5))
  have F7 : Fr a7 94 [(0, (.agg (cells8 k))), (1, (.agg (cells8 k2))), (2, (.agg (cells8 nz))), (3, (.int .u8 (b.toNat : Int))), (4, (.pointer (some ⟨g0, 0, none⟩))), (5, (.pointer (some ⟨g1, 0, none⟩))), (8, (.bool false)), (9, (.pointer (some ⟨g4, 0, none⟩))), (11, vz3_), (12, (.int .i64 0)), (20, (.bool true)), (21, (.bool false))] := fr_of_holds hI.tsz (hI.defers.trans F6.defers) ⟨hI.had 0 _ rfl (F6.at 0 rfl), hI.had 1 _ rfl (F6.at 1 rfl), hI.had 2 _ rfl (F6.at 2 rfl), hI.had 3 _ rfl (F6.at 3 rfl), hI.had 4 _ rfl (F6.at 4 rfl), hI.had 5 _ rfl (F6.at 5 rfl), hI.had 8 _ rfl (F6.at 8 rfl), pg4, e11_, e12_, hI.had 20 _ rfl (F6.at 20 rfl), hI.had 21 _ rfl (F6.at 21 rfl), trivial⟩
  clear F6 M4 M5 M6
  refine nx ?_
  refine wp_seq ?_
  refine wp_seq ?_
  have hs5 := shS_len k nz
  refine wp_region_lit ?_
  refine mvS F7 rfl rfl rfl rfl rfl fun a8 F8 => ?_
  refine sr (v := (.bool false)) F8 (run_nei rfl (F8.ev 31 rfl) rfl (bne_self_eq_false _)) rfl rfl rfl fun a9 F9 => ?_
  refine mvS F9 rfl rfl rfl rfl rfl fun a10 F10 => ?_
  refine sq (v := vz3_) F10 (wantedG F10 rfl rfl rfl rfl rfl) (run_mv rfl (F10.ev 11 rfl)) rfl (by decide) fun a11 F11 => ?_
  refine sq (v := (.int .i64 ((shS k nz).length : Int))) F11 (wantedG F11 rfl rfl rfl rfl rfl) (run_lenS rfl (F11.ev 34 rfl) (Sl.own hO7) rfl Tryd.underlying31) rfl (by decide) fun a12 F12 => ?_
  refine sq (v := (.bool false)) F12 (wantedG F12 rfl rfl rfl rfl rfl) (run_nei rfl (F12.ev 35 rfl) rfl (bne_eq_false_iff_eq.2 (by omega))) rfl (by decide) fun a13 F13 => ?_
  refine sr (v := (.bool false)) F13 (run_pick rfl (F13.ev 33 rfl) rfl (F13.ev 36 rfl)) rfl rfl rfl fun a14 F14 => ?_
  refine sn ?_
  clear F7 F8 F9 F10 F11 F12 F13
  refine cfs (F14.ev 37 rfl) ?_
  refine wsl ?_
  refine mvS F14 rfl rfl rfl rfl rfl fun a15 F15 => ?_
  refine sr F15 (run_cvI (r := (b.toNat : Int)) rfl (F15.ev 38 rfl) Tryd.underlying5 Tryd.underlying3 (by rw [IntKind.wrap_i64]; omega)) rfl rfl rfl fun a16 F16 => ?_
  refine sr (v := (.int .i64 (qa : Int))) F16 (run_rem (r := (qa : Int)) rfl (F16.ev 39 rfl) rfl (by omega) (by rw [Int.tmod_eq_emod_of_nonneg (by omega)]; omega)) rfl rfl rfl fun a17 F17 => ?_
  refine asS F17 rfl rfl rfl rfl rfl fun a18 F18 => ?_
  refine sn ?_
  clear F14 F15 F16 F17
  refine wp_seq ?_
  refine wp_region_p 94 [.val (.agg (cells8 k2)), .val vz3_, .val (.int .i64 (qa : Int)), .val (slPtr vz3_ (qa * 33)), .val (.agg (shareC (shOf k nz qa)).toArray), .val vz3_, .val (.int .i64 (qa : Int)), .val (.int .i64 ((qa + 1 : Nat) : Int)), .val (slPtr vz3_ ((qa + 1) * 33)), .val (.agg (shareC (shOf k nz (qa + 1))).toArray), .val (.agg (shareC (thirdS k2 (shOf k nz qa) (shOf k nz (qa + 1)) 7)).toArray), .any, .any] [] [⟨11, 14, 12, 54, (cells8 (List.replicate 33 0)), .val (.agg (shareC (thirdS k2 (shOf k nz qa) (shOf k nz (qa + 1)) 7)).toArray)⟩] [] [] (by kernel_rfl) (by kernel_rfl) F18.size ?_ ?_ ?_ ?_ (by kernel_rfl) ?_ fun a19 w6 gs hI => ?_
  · intro d hd
    simp only [List.mem_cons, List.not_mem_nil, or_false] at hd
    rcases hd with rfl <;> exact ⟨Nat.le_of_ble_eq_true (by kernel_rfl), _, rfl, rfl⟩
  · intro b hb
    cases hb
  · intro x y b c hx hy hne
    simp at hx
  · intro r hr
    cases hr
  · refine ⟨?_, ?_, ?_, ?_, ?_, ?_, ?_, ?_, ?_, ?_, ?_, ?_, ?_, trivial⟩
    · refine .val 41 rfl (by simp) (by simp) (by simp) fun a W hK hh hd => ⟨wanted_yes rfl, ?_⟩
      exact givz_run (run_ldB rfl (eval_tmp (hh 5 _ rfl (F18.at 5 rfl))) ((M7.grow hK.below).at 3 rfl) Tryd.underlying23 rfl sz32k (szOf hLk2)) rfl
    · refine .val 42 rfl (by simp) (by simp) (by simp) fun a W hK hh hd => ⟨wanted_yes rfl, ?_⟩
      exact givz_run (run_mv rfl (eval_tmp (hh 11 _ rfl (F18.at 11 rfl)))) rfl
    · refine .val 43 rfl (by simp) (by simp) (by simp) fun a W hK hh hd => ⟨wanted_yes rfl, ?_⟩
      exact givz_run (run_mv rfl (eval_tmp (hh 13 _ rfl (F18.at 13 rfl)))) rfl
    · refine .val 44 rfl (by simp) (by simp) (by simp) fun a W hK hh hd => ⟨wanted_yes rfl, ?_⟩
      exact givz_run (run_atP (i := qa) rfl (eval_tmp (hd.valz (j := 1) (s := 42) (by kernel_rfl) (by simp) rfl rfl)) (eval_tmp (hd.valz (j := 2) (s := 43) (by kernel_rfl) (by simp) rfl rfl)) rfl (Sl.own (hO7.grow hK.below)) (by omega) eltSh.un (by kernel_rfl)) rfl
    · refine .val 45 rfl (by simp) (by simp) (by simp) fun a W hK hh hd => ⟨wanted_yes rfl, ?_⟩
      exact givz_run (run_ldPS (ys := shareC (shOf k nz qa)) rfl (eval_tmp (hd.valz (j := 3) (s := 44) (by kernel_rfl) (by simp) rfl rfl)) (Sl.own (hO7.grow hK.below)) (by omega) (fun j u hj => flat_at shareC_len (shS_at (by omega)) j hj) (by kernel_rfl) (by kernel_rfl)) rfl
    · refine .val 46 rfl (by simp) (by simp) (by simp) fun a W hK hh hd => ⟨wanted_yes rfl, ?_⟩
      exact givz_run (run_mv rfl (eval_tmp (hh 11 _ rfl (F18.at 11 rfl)))) rfl
    · refine .val 47 rfl (by simp) (by simp) (by simp) fun a W hK hh hd => ⟨wanted_yes rfl, ?_⟩
      exact givz_run (run_mv rfl (eval_tmp (hh 13 _ rfl (F18.at 13 rfl)))) rfl
    · refine .val 48 rfl (by simp) (by simp) (by simp) fun a W hK hh hd => ⟨wanted_yes rfl, ?_⟩
      exact givz_run (run_add (r := ((qa + 1 : Nat) : Int)) rfl (eval_tmp (hd.valz (j := 6) (s := 47) (by kernel_rfl) (by simp) rfl rfl)) rfl (by rw [IntKind.wrap_i64]; omega)) rfl
    · refine .val 49 rfl (by simp) (by simp) (by simp) fun a W hK hh hd => ⟨wanted_yes rfl, ?_⟩
      exact givz_run (run_atP (i := (qa + 1)) rfl (eval_tmp (hd.valz (j := 5) (s := 46) (by kernel_rfl) (by simp) rfl rfl)) (eval_tmp (hd.valz (j := 7) (s := 48) (by kernel_rfl) (by simp) rfl rfl)) rfl (Sl.own (hO7.grow hK.below)) (by omega) eltSh.un (by kernel_rfl)) rfl
    · refine .val 50 rfl (by simp) (by simp) (by simp) fun a W hK hh hd => ⟨wanted_yes rfl, ?_⟩
      exact givz_run (run_ldPS (ys := shareC (shOf k nz (qa + 1))) rfl (eval_tmp (hd.valz (j := 8) (s := 49) (by kernel_rfl) (by simp) rfl rfl)) (Sl.own (hO7.grow hK.below)) (by omega) (fun j u hj => flat_at shareC_len (shS_at (by omega)) j hj) (by kernel_rfl) (by kernel_rfl)) rfl
    · refine .val 51 rfl (by simp) (by simp) (by simp) fun a W hK hh hd => ⟨wanted_yes rfl, ?_⟩
      exact givz_callV (run_call rfl Tryd.func27 (by kernel_rfl) rfl (mapE4 (eval_tmp (hd.valz (j := 0) (s := 41) (by kernel_rfl) (by simp) rfl rfl)) (eval_tmp (hd.valz (j := 4) (s := 45) (by kernel_rfl) (by simp) rfl rfl)) (eval_tmp (hd.valz (j := 9) (s := 50) (by kernel_rfl) (by simp) rfl rfl)) rfl)) (third_any k2 (shOf k nz qa) (shOf k nz (qa + 1)) 7 W hLk2 d01 d02 d12)
    · exact .new 0 _ rfl rfl rfl (by simp) (by simp) (by simp) (fun y e hy he => by rcases y with _ | _ | y <;> simp at hy <;> (try subst hy) <;> simp at he ⊢) fun a W => ⟨wanted_yes rfl, run_alloc rfl (by kernel_rfl)⟩
    · refine .put 0 _ rfl rfl rfl (by simp) (by simp) (by simp) (fun y e hy he => by rcases y with _ | _ | y <;> simp at hy <;> (try subst hy) <;> simp at he ⊢) (by kernel_rfl) 33 54 _ _ rfl rfl (fun a W hK hh hd => ?_) rfl szSh3 (szOf List.length_replicate)
      rw [show a.eval _ = _ from (eval_tmp (hd.valz (j := 10) (s := 51) (by kernel_rfl) (by simp) rfl rfl))]
      exact ⟨rfl, (shareA_size _), (shareA_one _)⟩
  obtain ⟨pg8, qg8, _, fg8⟩ := hI.blk 0 _ rfl rfl
  generalize gs 0 = g8 at pg8 qg8 fg8
  obtain ⟨_, Bg8, rfl⟩ := fg8 rfl
  have Bg8 : Blk w6 g8 54 ((shareC (thirdS k2 (shOf k nz qa) (shOf k nz (qa + 1)) 7)).toArray) := Bg8
  have hb6 := KeepW.below hI.keep
  have M8 := M7.grow hb6
  have hO10 := hO7.grow hb6
  have hO11 := hO8.grow hb6
  have hO12 := hO9.grow hb6
  have hO13 := hO10.addFar (S := isB 54 ((shareC (thirdS k2 (shOf k nz qa) (shOf k nz (qa + 1)) 7)).toArray)) (own_ne_ge hO7.owns qg8)
  have hO14 := hO11.addFar (S := isB 54 ((shareC (thirdS k2 (shOf k nz qa) (shOf k nz (qa + 1)) 7)).toArray)) (own_ne_ge hO8.owns qg8)
  have hO15 := hO12.addFar (S := isB 54 ((shareC (thirdS k2 (shOf k nz qa) (shOf k nz (qa + 1)) 7)).toArray)) (own_ne_ge hO9.owns qg8)
  have M9 := M8.put1 (cs := (shareC (thirdS k2 (shOf k nz qa) (shOf k nz (qa + 1)) 7)).toArray) (Nat.le_trans M7.below.size qg8) Bg8 (mem_far_new M7 qg8)
  have F19 : Fr a19 94 [(0, (.agg (cells8 k))), (1, (.agg (cells8 k2))), (2, (.agg (cells8 nz))), (3, (.int .u8 (b.toNat : Int))), (4, (.pointer (some ⟨g0, 0, none⟩))), (5, (.pointer (some ⟨g1, 0, none⟩))), (8, (.bool false)), (9, (.pointer (some ⟨g4, 0, none⟩))), (11, vz3_), (12, (.int .i64 0)), (13, (.int .i64 (qa : Int))), (14, (.pointer (some ⟨g8, 0, none⟩))), (20, (.bool true)), (21, (.bool false)), (31, (.int .i64 0)), (32, (.bool false)), (33, (.bool false)), (34, vz3_), (35, (.int .i64 ((shS k nz).length : Int))), (36, (.bool false)), (37, (.bool false)), (38, (.int .u8 (b.toNat : Int))), (39, (.int .i64 (b.toNat : Int))), (40, (.int .i64 (qa : Int)))] := fr_of_holds hI.tsz (hI.defers.trans F18.defers) ⟨hI.had 0 _ rfl (F18.at 0 rfl), hI.had 1 _ rfl (F18.at 1 rfl), hI.had 2 _ rfl (F18.at 2 rfl), hI.had 3 _ rfl (F18.at 3 rfl), hI.had 4 _ rfl (F18.at 4 rfl), hI.had 5 _ rfl (F18.at 5 rfl), hI.had 8 _ rfl (F18.at 8 rfl), hI.had 9 _ rfl (F18.at 9 rfl), hI.had 11 _ rfl (F18.at 11 rfl), hI.had 12 _ rfl (F18.at 12 rfl), hI.had 13 _ rfl (F18.at 13 rfl), pg8, hI.had 20 _ rfl (F18.at 20 rfl), hI.had 21 _ rfl (F18.at 21 rfl), hI.had 31 _ rfl (F18.at 31 rfl), hI.had 32 _ rfl (F18.at 32 rfl), hI.had 33 _ rfl (F18.at 33 rfl), hI.had 34 _ rfl (F18.at 34 rfl), hI.had 35 _ rfl (F18.at 35 rfl), hI.had 36 _ rfl (F18.at 36 rfl), hI.had 37 _ rfl (F18.at 37 rfl), hI.had 38 _ rfl (F18.at 38 rfl), hI.had 39 _ rfl (F18.at 39 rfl), hI.had 40 _ rfl (F18.at 40 rfl), trivial⟩
  clear F18 M7 M8
  refine nx ?_
  refine wp_seq ?_
  refine wp_region_p 94 [.val vz3_, .val (.int .i64 (qa : Int)), .val (slPtr vz3_ (qa * 33)), .val (.agg (shareC (shOf k nz qa)).toArray), .val vz3_, .val (.int .i64 (qa : Int)), .val (.int .i64 ((qa + 1 : Nat) : Int)), .val (slPtr vz3_ ((qa + 1) * 33)), .val (.agg (shareC (shOf k nz (qa + 1))).toArray), .val (.agg (shareC (thirdS k2 (shOf k nz qa) (shOf k nz (qa + 1)) 7)).toArray), .row 54 33 3 ([shOf k nz qa, shOf k nz (qa + 1), thirdS k2 (shOf k nz qa) (shOf k nz (qa + 1)) 7].flatMap shareC), .row 54 33 3 ([shOf k nz qa, shOf k nz (qa + 1), thirdS k2 (shOf k nz qa) (shOf k nz (qa + 1)) 7].flatMap shareC)] [] [] [] [] (by kernel_rfl) (by kernel_rfl) F19.size ?_ ?_ ?_ ?_ (by kernel_rfl) ?_ fun a20 w7 gs hI => ?_
  · intro d hd
    cases hd
  · intro b hb
    cases hb
  · intro x y b c hx hy hne
    simp at hx
  · intro r hr
    cases hr
  · refine ⟨?_, ?_, ?_, ?_, ?_, ?_, ?_, ?_, ?_, ?_, ?_, ?_, trivial⟩
    · refine .val 52 rfl (by simp) (by simp) (by simp) fun a W hK hh hd => ⟨wanted_yes rfl, ?_⟩
      exact givz_run (run_mv rfl (eval_tmp (hh 11 _ rfl (F19.at 11 rfl)))) rfl
    · refine .val 53 rfl (by simp) (by simp) (by simp) fun a W hK hh hd => ⟨wanted_yes rfl, ?_⟩
      exact givz_run (run_mv rfl (eval_tmp (hh 13 _ rfl (F19.at 13 rfl)))) rfl
    · refine .val 54 rfl (by simp) (by simp) (by simp) fun a W hK hh hd => ⟨wanted_yes rfl, ?_⟩
      exact givz_run (run_atP (i := qa) rfl (eval_tmp (hd.valz (j := 0) (s := 52) (by kernel_rfl) (by simp) rfl rfl)) (eval_tmp (hd.valz (j := 1) (s := 53) (by kernel_rfl) (by simp) rfl rfl)) rfl (Sl.own (hO13.grow hK.below)) (by omega) eltSh.un (by kernel_rfl)) rfl
    · refine .val 55 rfl (by simp) (by simp) (by simp) fun a W hK hh hd => ⟨wanted_yes rfl, ?_⟩
      exact givz_run (run_ldPS (ys := shareC (shOf k nz qa)) rfl (eval_tmp (hd.valz (j := 2) (s := 54) (by kernel_rfl) (by simp) rfl rfl)) (Sl.own (hO13.grow hK.below)) (by omega) (fun j u hj => flat_at shareC_len (shS_at (by omega)) j hj) (by kernel_rfl) (by kernel_rfl)) rfl
    · refine .val 56 rfl (by simp) (by simp) (by simp) fun a W hK hh hd => ⟨wanted_yes rfl, ?_⟩
      exact givz_run (run_mv rfl (eval_tmp (hh 11 _ rfl (F19.at 11 rfl)))) rfl
    · refine .val 57 rfl (by simp) (by simp) (by simp) fun a W hK hh hd => ⟨wanted_yes rfl, ?_⟩
      exact givz_run (run_mv rfl (eval_tmp (hh 13 _ rfl (F19.at 13 rfl)))) rfl
    · refine .val 58 rfl (by simp) (by simp) (by simp) fun a W hK hh hd => ⟨wanted_yes rfl, ?_⟩
      exact givz_run (run_add (r := ((qa + 1 : Nat) : Int)) rfl (eval_tmp (hd.valz (j := 5) (s := 57) (by kernel_rfl) (by simp) rfl rfl)) rfl (by rw [IntKind.wrap_i64]; omega)) rfl
    · refine .val 59 rfl (by simp) (by simp) (by simp) fun a W hK hh hd => ⟨wanted_yes rfl, ?_⟩
      exact givz_run (run_atP (i := (qa + 1)) rfl (eval_tmp (hd.valz (j := 4) (s := 56) (by kernel_rfl) (by simp) rfl rfl)) (eval_tmp (hd.valz (j := 6) (s := 58) (by kernel_rfl) (by simp) rfl rfl)) rfl (Sl.own (hO13.grow hK.below)) (by omega) eltSh.un (by kernel_rfl)) rfl
    · refine .val 60 rfl (by simp) (by simp) (by simp) fun a W hK hh hd => ⟨wanted_yes rfl, ?_⟩
      exact givz_run (run_ldPS (ys := shareC (shOf k nz (qa + 1))) rfl (eval_tmp (hd.valz (j := 7) (s := 59) (by kernel_rfl) (by simp) rfl rfl)) (Sl.own (hO13.grow hK.below)) (by omega) (fun j u hj => flat_at shareC_len (shS_at (by omega)) j hj) (by kernel_rfl) (by kernel_rfl)) rfl
    · refine .val 61 rfl (by simp) (by simp) (by simp) fun a W hK hh hd => ⟨wanted_yes rfl, ?_⟩
      exact givz_run (run_ldB rfl (eval_tmp (hh 14 _ rfl (F19.at 14 rfl))) ((M9.grow hK.below).at 0 rfl) Tryd.underlying54 rfl szSh3 (shareA_size _)) rfl
    · refine .val 62 rfl (by simp) (by simp) (by simp) fun a W hK hh hd => ⟨wanted_yes rfl, ?_⟩
      exact givz_newRowL (m := 33) (n := 3) _ _ hK.size (flat_lenG shareC_len [shOf k nz qa, shOf k nz (qa + 1), thirdS k2 (shOf k nz qa) (shOf k nz (qa + 1)) 7]) (by decide) (run_shs3 rfl (eval_tmp (hd.valz (j := 3) (s := 55) (by kernel_rfl) (by simp) rfl rfl)) (eval_tmp (hd.valz (j := 8) (s := 60) (by kernel_rfl) (by simp) rfl rfl)) (eval_tmp (hd.valz (j := 9) (s := 61) (by kernel_rfl) (by simp) rfl rfl)))
    · refine .val 15 rfl (by simp) (by simp) (by simp) fun a W hK hh hd => ⟨wanted_yes rfl, ?_⟩
      obtain ⟨vz_11_10, ey10, hz_11_10⟩ := hd.getz (j := 10) (s := 62) (by kernel_rfl) (by simp) rfl rfl
      exact givz_run (run_as rfl (eval_tmp ey10)) hz_11_10
  obtain ⟨vz10_, e15_, hz10_⟩ := hI.val 11 _ 15 rfl rfl rfl (by simp) (fun _ h => by cases h)
  have hb7 := KeepW.below hI.keep
  have M10 := M9.grow hb7
  have hO16 := hO13.grow hb7
  have hO17 := hO14.grow hb7
  have hO18 := hO15.grow hb7
  have hO19 := OwnR.ofCall M9 (show World.ownsRow w7 _ 54 33 vz10_ 3 ([shOf k nz qa, shOf k nz (qa + 1), thirdS k2 (shOf k nz qa) (shOf k nz (qa + 1)) 7].flatMap shareC) from hz10_)
  have F20 : Fr a20 94 [(0, (.agg (cells8 k))), (1, (.agg (cells8 k2))), (2, (.agg (cells8 nz))), (3, (.int .u8 (b.toNat : Int))), (4, (.pointer (some ⟨g0, 0, none⟩))), (5, (.pointer (some ⟨g1, 0, none⟩))), (8, (.bool false)), (9, (.pointer (some ⟨g4, 0, none⟩))), (11, vz3_), (12, (.int .i64 0)), (13, (.int .i64 (qa : Int))), (14, (.pointer (some ⟨g8, 0, none⟩))), (15, vz10_), (20, (.bool true)), (21, (.bool false)), (31, (.int .i64 0)), (32, (.bool false)), (33, (.bool false)), (34, vz3_), (35, (.int .i64 ((shS k nz).length : Int))), (36, (.bool false)), (37, (.bool false)), (38, (.int .u8 (b.toNat : Int))), (39, (.int .i64 (b.toNat : Int))), (40, (.int .i64 (qa : Int)))] := fr_of_holds hI.tsz (hI.defers.trans F19.defers) ⟨hI.had 0 _ rfl (F19.at 0 rfl), hI.had 1 _ rfl (F19.at 1 rfl), hI.had 2 _ rfl (F19.at 2 rfl), hI.had 3 _ rfl (F19.at 3 rfl), hI.had 4 _ rfl (F19.at 4 rfl), hI.had 5 _ rfl (F19.at 5 rfl), hI.had 8 _ rfl (F19.at 8 rfl), hI.had 9 _ rfl (F19.at 9 rfl), hI.had 11 _ rfl (F19.at 11 rfl), hI.had 12 _ rfl (F19.at 12 rfl), hI.had 13 _ rfl (F19.at 13 rfl), hI.had 14 _ rfl (F19.at 14 rfl), e15_, hI.had 20 _ rfl (F19.at 20 rfl), hI.had 21 _ rfl (F19.at 21 rfl), hI.had 31 _ rfl (F19.at 31 rfl), hI.had 32 _ rfl (F19.at 32 rfl), hI.had 33 _ rfl (F19.at 33 rfl), hI.had 34 _ rfl (F19.at 34 rfl), hI.had 35 _ rfl (F19.at 35 rfl), hI.had 36 _ rfl (F19.at 36 rfl), hI.had 37 _ rfl (F19.at 37 rfl), hI.had 38 _ rfl (F19.at 38 rfl), hI.had 39 _ rfl (F19.at 39 rfl), hI.had 40 _ rfl (F19.at 40 rfl), trivial⟩
  clear F19 M9
  refine nx ?_
  refine wsl ?_
  refine mvS F20 rfl rfl rfl rfl rfl fun a21 F21 => ?_
  refine sqC (v := (.tuple #[(.agg (cells8 k2)), (.int .i64 0)])) F21 M10 (wantedS rfl) (run_call rfl Tryd.func28 (by kernel_rfl) rfl (mapE1 (F21.ev 64 rfl))) rfl (by decide) ((by have h := join_any [shOf k nz qa, shOf k nz (qa + 1), thirdS k2 (shOf k nz qa) (shOf k nz (qa + 1)) 7] vz10_ w7 (Sl.own hO19); rw [hJ] at h; exact h)) fun a22 w8 hb8 F22 M11 => ?_
  have hO20 := hO16.grow hb8
  have hO21 := hO17.grow hb8
  have hO22 := hO18.grow hb8
  have hO23 := hO19.grow hb8
  refine mvS F22 rfl rfl rfl rfl rfl fun a23 F23 => ?_
  refine sr (v := (.agg (cells8 k2))) F23 (run_ext rfl (F23.ev 63 rfl) rfl) rfl rfl rfl fun a24 F24 => ?_
  refine sr (v := (.int .i64 0)) F24 (run_ext rfl (F24.ev 63 rfl) rfl) rfl rfl rfl fun a25 F25 => ?_
  refine sqNew (cs := (cells8 (List.replicate 32 0))) (t := 23) F25 M11 (wantedS rfl) (run_alloc rfl (by kernel_rfl)) rfl (by decide) fun g11 a26 w9 hgg11 hb9 F26 M12 => ?_
  have hO24 := hO20.add (S := isB 23 (cells8 (List.replicate 32 0))) hb9 hgg11
  have hO25 := hO21.add (S := isB 23 (cells8 (List.replicate 32 0))) hb9 hgg11
  have hO26 := hO22.add (S := isB 23 (cells8 (List.replicate 32 0))) hb9 hgg11
  have hO27 := hO23.add (S := isB 23 (cells8 (List.replicate 32 0))) hb9 hgg11
  refine sqStoreG (i := 0) F26 M12 rfl rfl rfl (F26.ev 16 rfl) (F26.ev 66 rfl) rfl sz32k (szOf hLk2) (szOf List.length_replicate) (cells8_one _) fun a27 w10 hgr10 F27 M13 => ?_
  have hO28 := hO24.upd 0 (S2 := isB 23 (cells8 k2)) rfl hgr10
  have hO29 := hO25.upd 0 (S2 := isB 23 (cells8 k2)) rfl hgr10
  have hO30 := hO26.upd 0 (S2 := isB 23 (cells8 k2)) rfl hgr10
  have hO31 := hO27.upd 0 (S2 := isB 23 (cells8 k2)) rfl hgr10
  refine asS F27 rfl rfl rfl rfl rfl fun a28 F28 => ?_
  refine sn ?_
  clear F20 F21 F22 F23 F24 F25 F26 F27 M10 M11 M12
  refine wsl ?_
  refine sr F28 (run_ldB rfl (F28.ev 9 rfl) (M13.at 3 rfl) Tryd.underlying27 rfl szRg rfl) rfl rfl rfl fun a29 F29 => ?_
  refine mvS F29 rfl rfl rfl rfl rfl fun a30 F30 => ?_
  refine sqT (T := fun u wx => Kp.sat w10.heap.size (.tup2 (.st (.row 23 32 ((opnS (ringS [k]) [shOf k nz qa, shOf k nz (qa + 1), thirdS k2 (shOf k nz qa) (shOf k nz (qa + 1)) 7]).1.length) ((opnS (ringS [k]) [shOf k nz qa, shOf k nz (qa + 1), thirdS k2 (shOf k nz qa) (shOf k nz (qa + 1)) 7]).1.flatMap dgC))) (.val (.int .i64 ((opnS (ringS [k]) [shOf k nz qa, shOf k nz (qa + 1), thirdS k2 (shOf k nz qa) (shOf k nz (qa + 1)) 7]).2)))) u wx ∧ Below w10.heap.size w10 wx) F30 (wantedS rfl) (run_call rfl Tryd.func23 (by kernel_rfl) rfl (mapE2 (F30.ev 69 rfl) (F30.ev 70 rfl))) rfl (by decide) (kopen_any (ringS [k]) [shOf k nz qa, shOf k nz (qa + 1), thirdS k2 (shOf k nz qa) (shOf k nz (qa + 1)) 7] vz6_ vz10_ w10 (HG.below M13.below) (Sl.own hO29) (ringS_c32 _) (ringS_wr hk1) (Sl.own hO31) (by simp [ringS_len]) (by simp)) fun u12 a31 w11 hT11 F31 => ?_
  obtain ⟨⟨_, _, rfl, ⟨vz13a, rfl, hz13a⟩, rfl⟩, hb11⟩ := hT11
  have hO32 := OwnR.ofCall M13 (show World.ownsRow w11 _ 23 32 vz13a ((opnS (ringS [k]) [shOf k nz qa, shOf k nz (qa + 1), thirdS k2 (shOf k nz qa) (shOf k nz (qa + 1)) 7]).1.length) ((opnS (ringS [k]) [shOf k nz qa, shOf k nz (qa + 1), thirdS k2 (shOf k nz qa) (shOf k nz (qa + 1)) 7]).1.flatMap dgC) from hz13a)
  have M14 := M13.grow hb11
  have hO33 := hO28.grow hb11
  have hO34 := hO29.grow hb11
  have hO35 := hO30.grow hb11
  have hO36 := hO31.grow hb11
  refine mvS F31 rfl rfl rfl rfl rfl fun a32 F32 => ?_
  refine sr (v := (.agg #[vz13a])) F32 (run_ext rfl (F32.ev 68 rfl) rfl) rfl rfl rfl fun a33 F33 => ?_
  refine sr (v := (.int .i64 ((opnS (ringS [k]) [shOf k nz qa, shOf k nz (qa + 1), thirdS k2 (shOf k nz qa) (shOf k nz (qa + 1)) 7]).2))) F33 (run_ext rfl (F33.ev 68 rfl) rfl) rfl rfl rfl fun a34 F34 => ?_
  refine sqNew (cs := #[.slice none 0 0]) (t := 30) F34 M14 (wantedS rfl) (run_alloc rfl (by kernel_rfl)) rfl (by decide) fun g14 a35 w12 hgg14 hb12 F35 M15 => ?_
  have hO37 := hO33.add (S := isB 30 (#[.slice none 0 0])) hb12 hgg14
  have hO38 := hO34.add (S := isB 30 (#[.slice none 0 0])) hb12 hgg14
  have hO39 := hO35.add (S := isB 30 (#[.slice none 0 0])) hb12 hgg14
  have hO40 := hO36.add (S := isB 30 (#[.slice none 0 0])) hb12 hgg14
  have hO41 := hO32.add (S := isB 30 (#[.slice none 0 0])) hb12 hgg14
  refine sqStoreG (i := 0) F35 M15 rfl rfl rfl (F35.ev 18 rfl) (F35.ev 72 rfl) rfl szKy rfl rfl (one_own hO41.owns) fun a36 w13 hgr13 F36 M16 => ?_
  have hO42 := hO37.upd 0 (S2 := isB 30 #[vz13a]) rfl hgr13
  have hO43 := hO38.upd 0 (S2 := isB 30 #[vz13a]) rfl hgr13
  have hO44 := hO39.upd 0 (S2 := isB 30 #[vz13a]) rfl hgr13
  have hO45 := hO40.upd 0 (S2 := isB 30 #[vz13a]) rfl hgr13
  have hO46 := hO41.upd 0 (S2 := isB 30 #[vz13a]) rfl hgr13
  refine asS F36 rfl rfl rfl rfl rfl fun a37 F37 => ?_
  refine sn ?_
  clear F28 F29 F30 F31 F32 F33 F34 F35 F36 M13 M14 M15
  refine wp_seq ?_
  refine wsl ?_
  refine mvS F37 rfl rfl rfl rfl rfl fun a38 F38 => ?_
  refine sr (v := (.bool false)) F38 (run_nei rfl (F38.ev 74 rfl) rfl (bne_self_eq_false _)) rfl rfl rfl fun a39 F39 => ?_
  refine mvS F39 rfl rfl rfl rfl rfl fun a40 F40 => ?_
  refine sq (v := (.agg (cells8 k2))) F40 (wantedG F40 rfl rfl rfl rfl rfl) (run_ldB rfl (F40.ev 16 rfl) (M16.at 1 rfl) Tryd.underlying23 rfl sz32k (szOf hLk2)) rfl (by decide) fun a41 F41 => ?_
  refine sq (v := (.agg (cells8 k2))) F41 (wantedG F41 rfl rfl rfl rfl rfl) (run_ldB rfl (F41.ev 5 rfl) (M16.at 6 rfl) Tryd.underlying23 rfl sz32k (szOf hLk2)) rfl (by decide) fun a42 F42 => ?_
  refine sq (v := (.bool false)) F42 (wantedG F42 rfl rfl rfl rfl rfl) (run_neKB hLk2 hLk2 (beq_self_eq_true _) rfl (F42.ev 77 rfl) (F42.ev 78 rfl)) rfl (by decide) fun a43 F43 => ?_
  refine sr (v := (.bool false)) F43 (run_pick rfl (F43.ev 76 rfl) rfl (F43.ev 79 rfl)) rfl rfl rfl fun a44 F44 => ?_
  refine sn ?_
  clear F37 F38 F39 F40 F41 F42 F43
  refine cfs (F44.ev 80 rfl) ?_
  refine wp_seq ?_
  refine wsl ?_
  refine sr F44 (run_ldB rfl (F44.ev 4 rfl) (M16.at 7 rfl) Tryd.underlying23 rfl sz32k (szOf hLk)) rfl rfl rfl fun a45 F45 => ?_
  refine sr F45 (run_ldB rfl (F45.ev 5 rfl) (M16.at 6 rfl) Tryd.underlying23 rfl sz32k (szOf hLk2)) rfl rfl rfl fun a46 F46 => ?_
  refine sqOwnN (cs := ([k, k2].flatMap dgC)) (size := 32) (e := 23) (m := 2) F46 M16 (wantedS rfl) (run_keys2 hLk hLk2 rfl (F46.ev 81 rfl) (F46.ev 82 rfl)) (flat_lenG dgC_len [k, k2]) (by unfold maxLen; omega) rfl (by decide) fun v15 a47 w14 hO47 hb14 M17 F47 => ?_
  have hO48 := hO42.grow hb14
  have hO49 := hO43.grow hb14
  have hO50 := hO44.grow hb14
  have hO51 := hO45.grow hb14
  have hO52 := hO46.grow hb14
  refine sqT (T := fun u wx => (∃ b : Bool, u = .bool b ∧ (b = true → ∀ (p q : Nat) (x y : List UInt8), [k, k2][p]? = some x → [k, k2][q]? = some y → q < p → x ≠ y ∧ keyedS x checkT ≠ keyedS y checkT)) ∧ Below w14.heap.size w14 wx) F47 (wantedS rfl) (run_call rfl Tryd.func25 (by kernel_rfl) rfl (mapE1 (F47.ev 83 rfl))) rfl (by decide) ((apart38_any [k, k2] v15 w14 (Sl.own hO47) hkk (by simp)).mono fun e w2 ⟨⟨b, h1, h2⟩, h3⟩ => ⟨_, h1, ⟨b, rfl, h2⟩, h3⟩) fun u16 a48 w15 hT15 F48 => ?_
  obtain ⟨⟨bap, rfl, hbap⟩, hb15⟩ := hT15
  have M18 := M17.grow hb15
  have hO53 := hO48.grow hb15
  have hO54 := hO49.grow hb15
  have hO55 := hO50.grow hb15
  have hO56 := hO51.grow hb15
  have hO57 := hO52.grow hb15
  have hO58 := hO47.grow hb15
  rcases bap with _ | _
  · skip
    refine sr (v := (.bool true)) F48 (run_not rfl (F48.ev 84 rfl)) rfl rfl rfl fun a49 F49 => ?_
    refine sn ?_
    refine wp_cond_true (F49.ev 85 rfl) ?_
    refine wsl ?_
    refine sr (v := (.bool true)) F49 (run_as rfl rfl) rfl rfl rfl fun a50 F50 => ?_
    refine sn ?_
    clear F49
    refine wp_ret ?_
    refine nxRet ?_
    exact ret1 F50 rfl rfl ⟨rfl, M18.below⟩
  · skip
    have hap := hbap rfl
    have hop : opnS (ringS [k]) [shOf k nz qa, shOf k nz (qa + 1), thirdS k2 (shOf k nz qa) (shOf k nz (qa + 1)) 7] = ([], 21) := by
      rw [opnS_some (ringS_ne_nil (by simp)) hJ]
      exact open_other (k := k) rfl (fun e => (hap 1 0 k2 k rfl rfl (by decide)).2 e)
    refine sr (v := (.bool false)) F48 (run_not rfl (F48.ev 84 rfl)) rfl rfl rfl fun a49 F49 => ?_
    refine sn ?_
    refine cfs (F49.ev 85 rfl) ?_
    refine wsl ?_
    refine mvS F49 rfl rfl rfl rfl rfl fun a50 F50 => ?_
    refine sr (v := (.bool true)) F50 (run_eqi rfl (F50.ev 86 rfl) rfl (beq_iff_eq.2 (by rw [hop]))) rfl rfl rfl fun a51 F51 => ?_
    refine mvS F51 rfl rfl rfl rfl rfl fun a52 F52 => ?_
    refine sq (v := (.pointer (some ⟨g14, 0, none⟩))) F52 (wantedG F52 rfl rfl rfl rfl rfl) (run_fldA (m := 1) (s := 0) rfl (F52.ev 18 rfl) Tryd.underlying30 rfl rfl (by kernel_rfl) (by decide)) rfl (by decide) fun a53 F53 => ?_
    refine sq (v := vz13a) F53 (wantedG F53 rfl rfl rfl rfl rfl) (run_ldF rfl (F53.ev 89 rfl) (M18.at 0 rfl) rfl (by kernel_rfl)) rfl (by decide) fun a54 F54 => ?_
    refine sq (v := (.int .i64 (((opnS (ringS [k]) [shOf k nz qa, shOf k nz (qa + 1), thirdS k2 (shOf k nz qa) (shOf k nz (qa + 1)) 7]).1).length : Int))) F54 (wantedG F54 rfl rfl rfl rfl rfl) (run_lenS rfl (F54.ev 90 rfl) (Sl.own hO57) rfl Tryd.underlying28) rfl (by decide) fun a55 F55 => ?_
    refine sq (v := (.bool true)) F55 (wantedG F55 rfl rfl rfl rfl rfl) (run_eqi rfl (F55.ev 91 rfl) rfl (beq_iff_eq.2 (by rw [hop]; rfl))) rfl (by decide) fun a56 F56 => ?_
    refine sr (v := (.bool true)) F56 (run_pick rfl (F56.ev 88 rfl) (F56.ev 92 rfl) rfl) rfl rfl rfl fun a57 F57 => ?_
    refine asS F57 rfl rfl rfl rfl rfl fun a58 F58 => ?_
    refine sn ?_
    clear F49 F50 F51 F52 F53 F54 F55 F56 F57
    refine wp_ret ?_
    exact ret1 F58 rfl rfl ⟨rfl, M18.below⟩
end Go.Proofs.YtconhhhggckcbaaDoor
