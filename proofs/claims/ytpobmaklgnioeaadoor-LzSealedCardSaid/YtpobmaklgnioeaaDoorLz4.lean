/- The walks of past.four and past.best. Printed by gen_lz4.py. -/
import Derived.Test.YtpobmaklgnioeaaDoorLz0
import Derived.Test.YtpobmaklgnioeaaDoorLzM
namespace Go.Proofs.YtpobmaklgnioeaaDoor
open Go.RowKit

theorem sz4 : (Tryd.prog.info? 112).map (·.size) = some 4 := by kernel_rfl
theorem szPast : (Tryd.prog.info? 80).map (·.size) = some 3 := by kernel_rfl
set_option maxRecDepth 100000 in
set_option maxHeartbeats 1000000 in
theorem zfour_no (s : List UInt8) (gp gm ga p : Nat) (w : World) (hB : Blk w gp 80 #[.string ⟨s.toArray⟩, .map (some gm), .slice (some ⟨ga, 0, none⟩) s.length s.length]) (hs : s.length ≤ 2 ^ 32) (hp : p ≤ s.length) (h4 : s.length - p < 4) : Calls Tryd.prog 74 #[(.pointer (some ⟨gp, 0, none⟩)), .int .i64 (p : Int)] w fun e w' => e = .returned (.tuple #[.agg (cells8 (List.replicate 4 0)), .bool false]) ∧ Below w.heap.size w w' := by
  refine walk_enter Tryd.func74 rfl rfl rfl fun a0 hF0 => ?_
  have hM0 := Mem.new w
  refine wp_seq ?_
  refine wp_region_lit ?_
  refine sqNew (cs := (cells8 (List.replicate 4 0))) (t := 112) hF0 hM0 (wantedS rfl) (run_alloc rfl (by kernel_rfl)) rfl (by decide) fun g0 a1 w1 hgg0 hb1 hF1 hM1 => ?_
  refine sq (v := (.bool false)) hF1 (wantedS rfl) (run_as rfl rfl) rfl (by decide) fun a2 hF2 => ?_
  refine sqEnd ?_
  clear hF0 hF1 hM0
  refine nx ?_
  refine wp_seq ?_
  refine wp_seq ?_
  refine wp_region_lit ?_
  refine sq (v := (.pointer (some ⟨gp, 0, none⟩))) hF2 (wantedS rfl) (run_mv rfl (hF2.ev 0 rfl)) rfl (by decide) fun a3 hF3 => ?_
  refine sq (v := (.pointer (some ⟨gp, 0, none⟩))) hF3 (wantedS rfl) (run_nilp rfl (hF3.ev 6 rfl)) rfl (by decide) fun a4 hF4 => ?_
  refine sq (v := (.pointer (some ⟨gp, 0, none⟩))) hF4 (wantedS rfl) (run_fldA (m := 1) (s := 0) rfl (hF4.ev 7 rfl) Tryd.underlying80 rfl rfl (by kernel_rfl) (by decide)) rfl (by decide) fun a5 hF5 => ?_
  refine sq (v := (.string ⟨s.toArray⟩)) hF5 (wantedS rfl) (run_ldF rfl (hF5.ev 8 rfl) (hB.below hM1.below hB.lt) rfl (by kernel_rfl)) rfl (by decide) fun a6 hF6 => ?_
  refine sq (v := (.int .i64 (s.length : Int))) hF6 (wantedS rfl) (run_len rfl (hF6.ev 9 rfl) rfl Tryd.underlying9) rfl (by decide) fun a7 hF7 => ?_
  refine sq (v := (.int .i64 (p : Int))) hF7 (wantedS rfl) (run_mv rfl (hF7.ev 1 rfl)) rfl (by decide) fun a8 hF8 => ?_
  refine sq (v := (.int .i64 ((s.length : Int) - (p : Int)))) hF8 (wantedS rfl) (run_sub (r := (s.length : Int) - (p : Int)) rfl (hF8.ev 10 rfl) (hF8.ev 11 rfl) (by rw [IntKind.wrap_i64]; omega)) rfl (by decide) fun a9 hF9 => ?_
  refine sq (v := (.bool true)) hF9 (wantedS rfl) (run_lss rfl (hF9.ev 12 rfl) rfl (decide_eq_true (by omega))) rfl (by decide) fun a10 hF10 => ?_
  refine sqEnd ?_
  clear hF2 hF3 hF4 hF5 hF6 hF7 hF8 hF9
  refine nx ?_
  refine wp_cond_true (hF10.ev 13 rfl) ?_
  refine wp_seq ?_
  refine wp_region_lit ?_
  refine sq (v := (.agg (cells8 (List.replicate 4 0)))) hF10 (wantedS rfl) (run_blt (vs := #[]) (cs := cells8 (List.replicate 4 0)) rfl (by simp) (by kernel_rfl)) rfl (by decide) fun a11 hF11 => ?_
  refine sqStore (i := 0) hF11 hM1 rfl rfl rfl (hF11.ev 4 rfl) (hF11.ev 14 rfl) rfl sz4 (szOf List.length_replicate) (szOf List.length_replicate) (cells8_one _) fun a12 w2 hF12 hM2 => ?_
  refine sq (v := (.bool false)) hF12 (wantedS rfl) (run_as rfl rfl) rfl (by decide) fun a13 hF13 => ?_
  refine sqEnd ?_
  clear hF10 hF11 hF12 hM1
  refine nx ?_
  refine wp_ret ?_
  refine nxRet ?_
  exact retBT hF13 rfl rfl (hM2.at 0 rfl) Tryd.underlying112 rfl sz4 (szOf List.length_replicate) rfl ⟨rfl, hM2.below⟩
set_option maxRecDepth 100000 in
set_option maxHeartbeats 1000000 in
theorem zfour_yes (s K : List UInt8) (gp gm ga p : Nat) (w : World) (hB : Blk w gp 80 #[.string ⟨s.toArray⟩, .map (some gm), .slice (some ⟨ga, 0, none⟩) s.length s.length]) (hs : s.length ≤ 2 ^ 32) (hp : p ≤ s.length) (h4 : ¬ s.length - p < 4) (hK : fourS s p = K) : Calls Tryd.prog 74 #[(.pointer (some ⟨gp, 0, none⟩)), .int .i64 (p : Int)] w fun e w' => e = .returned (.tuple #[.agg (cells8 K), .bool true]) ∧ Below w.heap.size w w' := by
  have hk4 : K.length = 4 := by rw [← hK]; exact fourS_len (by omega)
  refine walk_enter Tryd.func74 rfl rfl rfl fun a0 hF0 => ?_
  have hM0 := Mem.new w
  refine wp_seq ?_
  refine wp_region_lit ?_
  refine sqNew (cs := (cells8 (List.replicate 4 0))) (t := 112) hF0 hM0 (wantedS rfl) (run_alloc rfl (by kernel_rfl)) rfl (by decide) fun g0 a1 w1 hgg0 hb1 hF1 hM1 => ?_
  refine sq (v := (.bool false)) hF1 (wantedS rfl) (run_as rfl rfl) rfl (by decide) fun a2 hF2 => ?_
  refine sqEnd ?_
  clear hF0 hF1 hM0
  refine nx ?_
  refine wp_seq ?_
  refine wp_seq ?_
  refine wp_region_lit ?_
  refine sq (v := (.pointer (some ⟨gp, 0, none⟩))) hF2 (wantedS rfl) (run_mv rfl (hF2.ev 0 rfl)) rfl (by decide) fun a3 hF3 => ?_
  refine sq (v := (.pointer (some ⟨gp, 0, none⟩))) hF3 (wantedS rfl) (run_nilp rfl (hF3.ev 6 rfl)) rfl (by decide) fun a4 hF4 => ?_
  refine sq (v := (.pointer (some ⟨gp, 0, none⟩))) hF4 (wantedS rfl) (run_fldA (m := 1) (s := 0) rfl (hF4.ev 7 rfl) Tryd.underlying80 rfl rfl (by kernel_rfl) (by decide)) rfl (by decide) fun a5 hF5 => ?_
  refine sq (v := (.string ⟨s.toArray⟩)) hF5 (wantedS rfl) (run_ldF rfl (hF5.ev 8 rfl) (hB.below hM1.below hB.lt) rfl (by kernel_rfl)) rfl (by decide) fun a6 hF6 => ?_
  refine sq (v := (.int .i64 (s.length : Int))) hF6 (wantedS rfl) (run_len rfl (hF6.ev 9 rfl) rfl Tryd.underlying9) rfl (by decide) fun a7 hF7 => ?_
  refine sq (v := (.int .i64 (p : Int))) hF7 (wantedS rfl) (run_mv rfl (hF7.ev 1 rfl)) rfl (by decide) fun a8 hF8 => ?_
  refine sq (v := (.int .i64 ((s.length : Int) - (p : Int)))) hF8 (wantedS rfl) (run_sub (r := (s.length : Int) - (p : Int)) rfl (hF8.ev 10 rfl) (hF8.ev 11 rfl) (by rw [IntKind.wrap_i64]; omega)) rfl (by decide) fun a9 hF9 => ?_
  refine sq (v := (.bool false)) hF9 (wantedS rfl) (run_lss rfl (hF9.ev 12 rfl) rfl (decide_eq_false (by omega))) rfl (by decide) fun a10 hF10 => ?_
  refine sqEnd ?_
  clear hF2 hF3 hF4 hF5 hF6 hF7 hF8 hF9
  refine nx ?_
  refine wp_cond_false (hF10.ev 13 rfl) ?_
  refine wp_skip ?_
  refine nx ?_
  refine wp_seq ?_
  refine wp_region_lit ?_
  refine sq (v := (.pointer (some ⟨gp, 0, none⟩))) hF10 (wantedS rfl) (run_mv rfl (hF10.ev 0 rfl)) rfl (by decide) fun a11 hF11 => ?_
  refine sq (v := (.pointer (some ⟨gp, 0, none⟩))) hF11 (wantedS rfl) (run_nilp rfl (hF11.ev 15 rfl)) rfl (by decide) fun a12 hF12 => ?_
  refine sq (v := (.pointer (some ⟨gp, 0, none⟩))) hF12 (wantedS rfl) (run_fldA (m := 1) (s := 0) rfl (hF12.ev 16 rfl) Tryd.underlying80 rfl rfl (by kernel_rfl) (by decide)) rfl (by decide) fun a13 hF13 => ?_
  refine sq (v := (.string ⟨s.toArray⟩)) hF13 (wantedS rfl) (run_ldF rfl (hF13.ev 17 rfl) (hB.below hM1.below hB.lt) rfl (by kernel_rfl)) rfl (by decide) fun a14 hF14 => ?_
  refine sq (v := (.int .i64 (p : Int))) hF14 (wantedS rfl) (run_mv rfl (hF14.ev 1 rfl)) rfl (by decide) fun a15 hF15 => ?_
  refine sq (v := (.int .i64 (p : Int))) hF15 (wantedS rfl) (run_mv rfl (hF15.ev 1 rfl)) rfl (by decide) fun a16 hF16 => ?_
  refine sq (v := (.int .i64 ((p + 4 : Nat) : Int))) hF16 (wantedS rfl) (run_add (r := ((p + 4 : Nat) : Int)) rfl (hF16.ev 20 rfl) rfl (by rw [IntKind.wrap_i64]; omega)) rfl (by decide) fun a17 hF17 => ?_
  refine sq (v := (.string ⟨K.toArray⟩)) hF17 (wantedS rfl) (run_sMidE (m := p) (m2 := (p + 4)) (by rw [show p + 4 - p = 4 by omega]; exact hK) rfl (hF17.ev 18 rfl) (hF17.ev 19 rfl) (hF17.ev 21 rfl) Tryd.underlying9 (by omega) (by omega) (by omega) (by omega)) rfl (by decide) fun a18 hF18 => ?_
  refine sqBytesOf hF18 hM1 (wantedS rfl) rfl (hF18.ev 22 rfl) Tryd.underlying9 rfl (by decide) fun g1 c1 a19 w2 hgg1 hb2 hcc1 hF19 hM2 => ?_
  refine sq (v := (.pointer (some ⟨g1, 0, none⟩))) hF19 (wantedS rfl) (run_arrAt rfl (hF19.ev 23 rfl) Tryd.underlying112 (by omega)) rfl (by decide) fun a20 hF20 => ?_
  refine sq (v := (.agg (cells8 K))) hF20 (wantedS rfl) (run_ld4 rfl (hF20.ev 24 rfl) (hM2.ob 0 rfl) hk4) rfl (by decide) fun a21 hF21 => ?_
  refine sqStore (i := 1) hF21 hM2 rfl rfl rfl (hF21.ev 4 rfl) (hF21.ev 25 rfl) rfl sz4 (szOf hk4) (szOf List.length_replicate) (cells8_one _) fun a22 w3 hF22 hM3 => ?_
  refine sq (v := (.bool true)) hF22 (wantedS rfl) (run_as rfl rfl) rfl (by decide) fun a23 hF23 => ?_
  refine sqEnd ?_
  clear hF10 hF11 hF12 hF13 hF14 hF15 hF16 hF17 hF18 hF19 hF20 hF21 hF22 hM1 hM2
  refine nx ?_
  refine wp_ret ?_
  exact retBT hF23 rfl rfl (hM3.at 1 rfl) Tryd.underlying112 rfl sz4 (szOf hk4) rfl ⟨rfl, hM3.below⟩
set_option maxRecDepth 100000 in
set_option maxHeartbeats 1000000 in
theorem zsame_any (s : List UInt8) (gp gm ga gmo gbx p j mo : Nat) (t1 t2 : TypeId) (w : World) (hB : Blk w gp 80 #[.string ⟨s.toArray⟩, .map (some gm), .slice (some ⟨ga, 0, none⟩) s.length s.length]) (hB1 : Blk w gmo t1 #[.int .i64 (mo : Int)]) (hB2 : Blk w gbx t2 #[.pointer (some ⟨gp, 0, none⟩)]) (hs : s.length ≤ 2 ^ 32) (hj : j < p) (hp : p ≤ s.length) (hmo : mo = mostS s p) : Calls Tryd.prog 75 #[.int .i64 (j : Int), .int .i64 (p : Int), .pointer (some ⟨gmo, 0, none⟩), .pointer (some ⟨gbx, 0, none⟩)] w fun e w' => e = .returned (.int .i64 (sameS s p (p - j) : Int)) ∧ Below w.heap.size w w' := by
  have hmo2 : mo = min 131 (s.length - p) := hmo
  refine walk_enter Tryd.func75 rfl rfl rfl fun a0 hF0 => ?_
  have hM0 := Mem.new w
  refine wp_seq ?_
  refine wp_region_lit ?_
  refine sq (v := (.int .i64 0)) hF0 (wantedS rfl) (run_as rfl rfl) rfl (by decide) fun a1 hF1 => ?_
  refine sqEnd ?_
  clear hF0
  refine nx ?_
  refine wp_seq ?_
  refine wp_region_lit ?_
  refine sq (v := (.int .i64 0)) hF1 (wantedS rfl) (run_as rfl rfl) rfl (by decide) fun a2 hF2 => ?_
  refine sqEnd ?_
  clear hF1
  refine nx ?_
  refine wp_seq ?_
  refine wp_block ?_
  refine wkLoop (fun m a w2 => ∃ n : Nat, n ≤ mo ∧ m = mo - n ∧ (∀ i, i < n → s[p + i]? = s[p - (p - j) + i]?) ∧ Fr a 33 [(0, .int .i64 (j : Int)), (1, .int .i64 (p : Int)), (2, .pointer (some ⟨gmo, 0, none⟩)), (3, .pointer (some ⟨gbx, 0, none⟩)), (7, .int .i64 (n : Int))] ∧ Mem w [] w2) mo ⟨0, Nat.zero_le _, rfl, fun i hi => by omega, hF2.sub ⟨rfl, rfl, rfl, rfl, rfl, trivial⟩, hM0⟩ ?_
  rintro m a0 w1 ⟨n, hn, rfl, hal, hF0, hM0⟩
  by_cases h1 : n < mo
  · by_cases h3 : (bt s (j + n)).toNat = (bt s (p + n)).toNat
    · have hg := bt_eq (l := s) (i := j + n) (j := p + n) (by omega) (by omega) h3
      refine wp_seq ?_
      refine wp_seq ?_
      obtain ⟨KL, hKL⟩ : ∃ KL, KL = [kval (.int .i64 (n : Int)), kval (.int .i64 (mo : Int)), kval (.bool true), kval (.bool true), kval (.pointer (some ⟨gp, 0, none⟩)), kval (.pointer (some ⟨gp, 0, none⟩)), kval (.pointer (some ⟨gp, 0, none⟩)), kval (.string ⟨s.toArray⟩), kval (.int .i64 (j : Int)), kval (.int .i64 (n : Int)), kval (.int .i64 ((j + n : Nat) : Int)), kval (.int .u8 ((bt s (j + n)).toNat : Int)), kval (.pointer (some ⟨gp, 0, none⟩)), kval (.pointer (some ⟨gp, 0, none⟩)), kval (.pointer (some ⟨gp, 0, none⟩)), kval (.string ⟨s.toArray⟩), kval (.int .i64 (p : Int)), kval (.int .i64 (n : Int)), kval (.int .i64 ((p + n : Nat) : Int)), kval (.int .u8 ((bt s (p + n)).toNat : Int)), kval (.bool true), kval (.bool true)] := ⟨_, rfl⟩
      have K0 : KL.getD 0 kany = kval (.int .i64 (n : Int)) := by rw [hKL]; rfl
      have K1 : KL.getD 1 kany = kval (.int .i64 (mo : Int)) := by rw [hKL]; rfl
      have K2 : KL.getD 2 kany = kval (.bool true) := by rw [hKL]; rfl
      have K3 : KL.getD 3 kany = kval (.bool true) := by rw [hKL]; rfl
      have K4 : KL.getD 4 kany = kval (.pointer (some ⟨gp, 0, none⟩)) := by rw [hKL]; rfl
      have K5 : KL.getD 5 kany = kval (.pointer (some ⟨gp, 0, none⟩)) := by rw [hKL]; rfl
      have K6 : KL.getD 6 kany = kval (.pointer (some ⟨gp, 0, none⟩)) := by rw [hKL]; rfl
      have K7 : KL.getD 7 kany = kval (.string ⟨s.toArray⟩) := by rw [hKL]; rfl
      have K8 : KL.getD 8 kany = kval (.int .i64 (j : Int)) := by rw [hKL]; rfl
      have K9 : KL.getD 9 kany = kval (.int .i64 (n : Int)) := by rw [hKL]; rfl
      have K10 : KL.getD 10 kany = kval (.int .i64 ((j + n : Nat) : Int)) := by rw [hKL]; rfl
      have K11 : KL.getD 11 kany = kval (.int .u8 ((bt s (j + n)).toNat : Int)) := by rw [hKL]; rfl
      have K12 : KL.getD 12 kany = kval (.pointer (some ⟨gp, 0, none⟩)) := by rw [hKL]; rfl
      have K13 : KL.getD 13 kany = kval (.pointer (some ⟨gp, 0, none⟩)) := by rw [hKL]; rfl
      have K14 : KL.getD 14 kany = kval (.pointer (some ⟨gp, 0, none⟩)) := by rw [hKL]; rfl
      have K15 : KL.getD 15 kany = kval (.string ⟨s.toArray⟩) := by rw [hKL]; rfl
      have K16 : KL.getD 16 kany = kval (.int .i64 (p : Int)) := by rw [hKL]; rfl
      have K17 : KL.getD 17 kany = kval (.int .i64 (n : Int)) := by rw [hKL]; rfl
      have K18 : KL.getD 18 kany = kval (.int .i64 ((p + n : Nat) : Int)) := by rw [hKL]; rfl
      have K19 : KL.getD 19 kany = kval (.int .u8 ((bt s (p + n)).toNat : Int)) := by rw [hKL]; rfl
      have K20 : KL.getD 20 kany = kval (.bool true) := by rw [hKL]; rfl
      have K21 : KL.getD 21 kany = kval (.bool true) := by rw [hKL]; rfl
      clear hKL
      refine wp_region_kd 33 (by kernel_rfl) (by kernel_rfl) (by kernel_rfl) hF0.size KL ?_ ?_
      · refine ⟨?_, ?_, ?_, ?_, ?_, ?_, ?_, ?_, ?_, ?_, ?_, ?_, ?_, ?_, ?_, ?_, ?_, ?_, ?_, ?_, ?_, ?_, trivial⟩
        · refine asks_mk fun a W hS hh hd => ⟨wanted_yes rfl, ?_⟩
          exact giv_run (run_mv rfl (eval_tmp (hh 7 _ rfl (hF0.at 7 rfl)))) K0
        · refine asks_mk fun a W hS hh hd => ⟨wanted_yes rfl, ?_⟩
          exact giv_run (run_ld1 rfl (eval_tmp (hh 2 _ rfl (hF0.at 2 rfl))) (hB1.below (hM0.grow hS).below hB1.lt) (by kernel_rfl)) K1
        · refine asks_mk fun a W hS hh hd => ⟨wanted_yes rfl, ?_⟩
          exact giv_run (run_lss rfl (eval_tmp (hd.val (j := 0) (s := 8) (by kernel_rfl) K0)) (eval_tmp (hd.val (j := 1) (s := 9) (by kernel_rfl) K1)) (decide_eq_true (by omega))) K2
        · refine asks_mk fun a W hS hh hd => ⟨wanted_yes rfl, ?_⟩
          exact giv_run (run_mv rfl (eval_tmp (hd.val (j := 2) (s := 10) (by kernel_rfl) K2))) K3
        · refine asks_mk fun a W hS hh hd => ⟨wanted_of (j := 3) (s := 11) (by kernel_rfl) (hd.val (j := 3) (s := 11) (by kernel_rfl) K3), ?_⟩
          exact giv_run (run_ld1 rfl (eval_tmp (hh 3 _ rfl (hF0.at 3 rfl))) (hB2.below (hM0.grow hS).below hB2.lt) (by kernel_rfl)) K4
        · refine asks_mk fun a W hS hh hd => ⟨wanted_of (j := 3) (s := 11) (by kernel_rfl) (hd.val (j := 3) (s := 11) (by kernel_rfl) K3), ?_⟩
          exact giv_run (run_nilp rfl (eval_tmp (hd.val (j := 4) (s := 12) (by kernel_rfl) K4))) K5
        · refine asks_mk fun a W hS hh hd => ⟨wanted_of (j := 3) (s := 11) (by kernel_rfl) (hd.val (j := 3) (s := 11) (by kernel_rfl) K3), ?_⟩
          exact giv_run (run_fldA (m := 1) (s := 0) rfl (eval_tmp (hd.val (j := 5) (s := 13) (by kernel_rfl) K5)) Tryd.underlying80 rfl rfl (by kernel_rfl) (by decide)) K6
        · refine asks_mk fun a W hS hh hd => ⟨wanted_of (j := 3) (s := 11) (by kernel_rfl) (hd.val (j := 3) (s := 11) (by kernel_rfl) K3), ?_⟩
          exact giv_run (run_ldF rfl (eval_tmp (hd.val (j := 6) (s := 14) (by kernel_rfl) K6)) (hB.below (hM0.grow hS).below hB.lt) rfl (by kernel_rfl)) K7
        · refine asks_mk fun a W hS hh hd => ⟨wanted_of (j := 3) (s := 11) (by kernel_rfl) (hd.val (j := 3) (s := 11) (by kernel_rfl) K3), ?_⟩
          exact giv_run (run_mv rfl (eval_tmp (hh 0 _ rfl (hF0.at 0 rfl)))) K8
        · refine asks_mk fun a W hS hh hd => ⟨wanted_of (j := 3) (s := 11) (by kernel_rfl) (hd.val (j := 3) (s := 11) (by kernel_rfl) K3), ?_⟩
          exact giv_run (run_mv rfl (eval_tmp (hh 7 _ rfl (hF0.at 7 rfl)))) K9
        · refine asks_mk fun a W hS hh hd => ⟨wanted_of (j := 3) (s := 11) (by kernel_rfl) (hd.val (j := 3) (s := 11) (by kernel_rfl) K3), ?_⟩
          exact giv_run (run_add (r := ((j + n : Nat) : Int)) rfl (eval_tmp (hd.val (j := 8) (s := 16) (by kernel_rfl) K8)) (eval_tmp (hd.val (j := 9) (s := 17) (by kernel_rfl) K9)) (by rw [IntKind.wrap_i64]; omega)) K10
        · refine asks_mk fun a W hS hh hd => ⟨wanted_of (j := 3) (s := 11) (by kernel_rfl) (hd.val (j := 3) (s := 11) (by kernel_rfl) K3), ?_⟩
          exact giv_run (run_sAt (n := (j + n)) rfl (eval_tmp (hd.val (j := 7) (s := 15) (by kernel_rfl) K7)) (eval_tmp (hd.val (j := 10) (s := 18) (by kernel_rfl) K10)) Tryd.underlying9 rfl (by omega)) K11
        · refine asks_mk fun a W hS hh hd => ⟨wanted_of (j := 3) (s := 11) (by kernel_rfl) (hd.val (j := 3) (s := 11) (by kernel_rfl) K3), ?_⟩
          exact giv_run (run_ld1 rfl (eval_tmp (hh 3 _ rfl (hF0.at 3 rfl))) (hB2.below (hM0.grow hS).below hB2.lt) (by kernel_rfl)) K12
        · refine asks_mk fun a W hS hh hd => ⟨wanted_of (j := 3) (s := 11) (by kernel_rfl) (hd.val (j := 3) (s := 11) (by kernel_rfl) K3), ?_⟩
          exact giv_run (run_nilp rfl (eval_tmp (hd.val (j := 12) (s := 20) (by kernel_rfl) K12))) K13
        · refine asks_mk fun a W hS hh hd => ⟨wanted_of (j := 3) (s := 11) (by kernel_rfl) (hd.val (j := 3) (s := 11) (by kernel_rfl) K3), ?_⟩
          exact giv_run (run_fldA (m := 1) (s := 0) rfl (eval_tmp (hd.val (j := 13) (s := 21) (by kernel_rfl) K13)) Tryd.underlying80 rfl rfl (by kernel_rfl) (by decide)) K14
        · refine asks_mk fun a W hS hh hd => ⟨wanted_of (j := 3) (s := 11) (by kernel_rfl) (hd.val (j := 3) (s := 11) (by kernel_rfl) K3), ?_⟩
          exact giv_run (run_ldF rfl (eval_tmp (hd.val (j := 14) (s := 22) (by kernel_rfl) K14)) (hB.below (hM0.grow hS).below hB.lt) rfl (by kernel_rfl)) K15
        · refine asks_mk fun a W hS hh hd => ⟨wanted_of (j := 3) (s := 11) (by kernel_rfl) (hd.val (j := 3) (s := 11) (by kernel_rfl) K3), ?_⟩
          exact giv_run (run_mv rfl (eval_tmp (hh 1 _ rfl (hF0.at 1 rfl)))) K16
        · refine asks_mk fun a W hS hh hd => ⟨wanted_of (j := 3) (s := 11) (by kernel_rfl) (hd.val (j := 3) (s := 11) (by kernel_rfl) K3), ?_⟩
          exact giv_run (run_mv rfl (eval_tmp (hh 7 _ rfl (hF0.at 7 rfl)))) K17
        · refine asks_mk fun a W hS hh hd => ⟨wanted_of (j := 3) (s := 11) (by kernel_rfl) (hd.val (j := 3) (s := 11) (by kernel_rfl) K3), ?_⟩
          exact giv_run (run_add (r := ((p + n : Nat) : Int)) rfl (eval_tmp (hd.val (j := 16) (s := 24) (by kernel_rfl) K16)) (eval_tmp (hd.val (j := 17) (s := 25) (by kernel_rfl) K17)) (by rw [IntKind.wrap_i64]; omega)) K18
        · refine asks_mk fun a W hS hh hd => ⟨wanted_of (j := 3) (s := 11) (by kernel_rfl) (hd.val (j := 3) (s := 11) (by kernel_rfl) K3), ?_⟩
          exact giv_run (run_sAt (n := (p + n)) rfl (eval_tmp (hd.val (j := 15) (s := 23) (by kernel_rfl) K15)) (eval_tmp (hd.val (j := 18) (s := 26) (by kernel_rfl) K18)) Tryd.underlying9 rfl (by omega)) K19
        · refine asks_mk fun a W hS hh hd => ⟨wanted_of (j := 3) (s := 11) (by kernel_rfl) (hd.val (j := 3) (s := 11) (by kernel_rfl) K3), ?_⟩
          exact giv_run (run_eqi rfl (eval_tmp (hd.val (j := 11) (s := 19) (by kernel_rfl) K11)) (eval_tmp (hd.val (j := 19) (s := 27) (by kernel_rfl) K19)) (beq_iff_eq.2 (by omega))) K20
        · refine asks_mk fun a W hS hh hd => ⟨wanted_yes rfl, ?_⟩
          exact giv_run (run_pick rfl (eval_tmp (hd.val (j := 3) (s := 11) (by kernel_rfl) K3)) (eval_tmp (hd.val (j := 20) (s := 28) (by kernel_rfl) K20)) rfl) K21
      · intro a1 w2 hb2 hK
        have e0 := hK.val (i := 0) (s := 8) (by kernel_rfl) K0
        have e1 := hK.val (i := 1) (s := 9) (by kernel_rfl) K1
        have e2 := hK.val (i := 2) (s := 10) (by kernel_rfl) K2
        have e3 := hK.val (i := 3) (s := 11) (by kernel_rfl) K3
        have e4 := hK.val (i := 4) (s := 12) (by kernel_rfl) K4
        have e5 := hK.val (i := 5) (s := 13) (by kernel_rfl) K5
        have e6 := hK.val (i := 6) (s := 14) (by kernel_rfl) K6
        have e7 := hK.val (i := 7) (s := 15) (by kernel_rfl) K7
        have e8 := hK.val (i := 8) (s := 16) (by kernel_rfl) K8
        have e9 := hK.val (i := 9) (s := 17) (by kernel_rfl) K9
        have e10 := hK.val (i := 10) (s := 18) (by kernel_rfl) K10
        have e11 := hK.val (i := 11) (s := 19) (by kernel_rfl) K11
        have e12 := hK.val (i := 12) (s := 20) (by kernel_rfl) K12
        have e13 := hK.val (i := 13) (s := 21) (by kernel_rfl) K13
        have e14 := hK.val (i := 14) (s := 22) (by kernel_rfl) K14
        have e15 := hK.val (i := 15) (s := 23) (by kernel_rfl) K15
        have e16 := hK.val (i := 16) (s := 24) (by kernel_rfl) K16
        have e17 := hK.val (i := 17) (s := 25) (by kernel_rfl) K17
        have e18 := hK.val (i := 18) (s := 26) (by kernel_rfl) K18
        have e19 := hK.val (i := 19) (s := 27) (by kernel_rfl) K19
        have e20 := hK.val (i := 20) (s := 28) (by kernel_rfl) K20
        have e21 := hK.val (i := 21) (s := 29) (by kernel_rfl) K21
        have hF1 : Fr a1 33 [(0, (.int .i64 (j : Int))), (1, (.int .i64 (p : Int))), (2, (.pointer (some ⟨gmo, 0, none⟩))), (3, (.pointer (some ⟨gbx, 0, none⟩))), (7, (.int .i64 (n : Int))), (29, (.bool true))] := (hK.fr hF0 [(.int .i64 (n : Int)), (.int .i64 (mo : Int)), (.bool true), (.bool true), (.pointer (some ⟨gp, 0, none⟩)), (.pointer (some ⟨gp, 0, none⟩)), (.pointer (some ⟨gp, 0, none⟩)), (.string ⟨s.toArray⟩), (.int .i64 (j : Int)), (.int .i64 (n : Int)), (.int .i64 ((j + n : Nat) : Int)), (.int .u8 ((bt s (j + n)).toNat : Int)), (.pointer (some ⟨gp, 0, none⟩)), (.pointer (some ⟨gp, 0, none⟩)), (.pointer (some ⟨gp, 0, none⟩)), (.string ⟨s.toArray⟩), (.int .i64 (p : Int)), (.int .i64 (n : Int)), (.int .i64 ((p + n : Nat) : Int)), (.int .u8 ((bt s (p + n)).toNat : Int)), (.bool true), (.bool true)] ⟨e0, e1, e2, e3, e4, e5, e6, e7, e8, e9, e10, e11, e12, e13, e14, e15, e16, e17, e18, e19, e20, e21, trivial⟩).sub ⟨rfl, rfl, rfl, rfl, rfl, rfl, trivial⟩
        have hM1 := hM0.grow hb2
        clear hK K0 e0 K1 e1 K2 e2 K3 e3 K4 e4 K5 e5 K6 e6 K7 e7 K8 e8 K9 e9 K10 e10 K11 e11 K12 e12 K13 e13 K14 e14 K15 e15 K16 e16 K17 e17 K18 e18 K19 e19 K20 e20 K21 e21
        clear hF0 hM0
        refine nx ?_
        refine wp_cond_true (hF1.ev 29 rfl) ?_
        refine wp_skip ?_
        refine nx ?_
        refine wp_block ?_
        refine wp_region_lit ?_
        refine sq (v := (.int .i64 (n : Int))) hF1 (wantedS rfl) (run_mv rfl (hF1.ev 7 rfl)) rfl (by decide) fun a2 hF2 => ?_
        refine sq (v := (.int .i64 ((n + 1 : Nat) : Int))) hF2 (wantedS rfl) (run_add (r := ((n + 1 : Nat) : Int)) rfl (hF2.ev 30 rfl) rfl (by rw [IntKind.wrap_i64]; omega)) rfl (by decide) fun a3 hF3 => ?_
        refine sq (v := (.int .i64 ((n + 1 : Nat) : Int))) hF3 (wantedS rfl) (run_as rfl (hF3.ev 31 rfl)) rfl (by decide) fun a4 hF4 => ?_
        refine sqEnd ?_
        clear hF1 hF2 hF3
        refine bkEnd ?_
        refine nx ?_
        refine ⟨_, by omega, n + 1, by omega, rfl, fun i hi => ?_, hF4.sub ⟨rfl, rfl, rfl, rfl, rfl, trivial⟩, hM1⟩
        rcases Nat.lt_or_ge i n with h | h
        · exact hal i h
        · obtain rfl : i = n := by omega
          rw [show p - (p - j) + i = j + i by omega]
          exact hg.symm
    · have hres : sameS s p (p - j) = n := sameS_eq (by omega) hal (.inr (by rw [show p - (p - j) + n = j + n by omega]; exact (bt_ne (by omega) (by omega) h3).symm))
      refine wp_seq ?_
      refine wp_seq ?_
      obtain ⟨KL, hKL⟩ : ∃ KL, KL = [kval (.int .i64 (n : Int)), kval (.int .i64 (mo : Int)), kval (.bool true), kval (.bool true), kval (.pointer (some ⟨gp, 0, none⟩)), kval (.pointer (some ⟨gp, 0, none⟩)), kval (.pointer (some ⟨gp, 0, none⟩)), kval (.string ⟨s.toArray⟩), kval (.int .i64 (j : Int)), kval (.int .i64 (n : Int)), kval (.int .i64 ((j + n : Nat) : Int)), kval (.int .u8 ((bt s (j + n)).toNat : Int)), kval (.pointer (some ⟨gp, 0, none⟩)), kval (.pointer (some ⟨gp, 0, none⟩)), kval (.pointer (some ⟨gp, 0, none⟩)), kval (.string ⟨s.toArray⟩), kval (.int .i64 (p : Int)), kval (.int .i64 (n : Int)), kval (.int .i64 ((p + n : Nat) : Int)), kval (.int .u8 ((bt s (p + n)).toNat : Int)), kval (.bool false), kval (.bool false)] := ⟨_, rfl⟩
      have K0 : KL.getD 0 kany = kval (.int .i64 (n : Int)) := by rw [hKL]; rfl
      have K1 : KL.getD 1 kany = kval (.int .i64 (mo : Int)) := by rw [hKL]; rfl
      have K2 : KL.getD 2 kany = kval (.bool true) := by rw [hKL]; rfl
      have K3 : KL.getD 3 kany = kval (.bool true) := by rw [hKL]; rfl
      have K4 : KL.getD 4 kany = kval (.pointer (some ⟨gp, 0, none⟩)) := by rw [hKL]; rfl
      have K5 : KL.getD 5 kany = kval (.pointer (some ⟨gp, 0, none⟩)) := by rw [hKL]; rfl
      have K6 : KL.getD 6 kany = kval (.pointer (some ⟨gp, 0, none⟩)) := by rw [hKL]; rfl
      have K7 : KL.getD 7 kany = kval (.string ⟨s.toArray⟩) := by rw [hKL]; rfl
      have K8 : KL.getD 8 kany = kval (.int .i64 (j : Int)) := by rw [hKL]; rfl
      have K9 : KL.getD 9 kany = kval (.int .i64 (n : Int)) := by rw [hKL]; rfl
      have K10 : KL.getD 10 kany = kval (.int .i64 ((j + n : Nat) : Int)) := by rw [hKL]; rfl
      have K11 : KL.getD 11 kany = kval (.int .u8 ((bt s (j + n)).toNat : Int)) := by rw [hKL]; rfl
      have K12 : KL.getD 12 kany = kval (.pointer (some ⟨gp, 0, none⟩)) := by rw [hKL]; rfl
      have K13 : KL.getD 13 kany = kval (.pointer (some ⟨gp, 0, none⟩)) := by rw [hKL]; rfl
      have K14 : KL.getD 14 kany = kval (.pointer (some ⟨gp, 0, none⟩)) := by rw [hKL]; rfl
      have K15 : KL.getD 15 kany = kval (.string ⟨s.toArray⟩) := by rw [hKL]; rfl
      have K16 : KL.getD 16 kany = kval (.int .i64 (p : Int)) := by rw [hKL]; rfl
      have K17 : KL.getD 17 kany = kval (.int .i64 (n : Int)) := by rw [hKL]; rfl
      have K18 : KL.getD 18 kany = kval (.int .i64 ((p + n : Nat) : Int)) := by rw [hKL]; rfl
      have K19 : KL.getD 19 kany = kval (.int .u8 ((bt s (p + n)).toNat : Int)) := by rw [hKL]; rfl
      have K20 : KL.getD 20 kany = kval (.bool false) := by rw [hKL]; rfl
      have K21 : KL.getD 21 kany = kval (.bool false) := by rw [hKL]; rfl
      clear hKL
      refine wp_region_kd 33 (by kernel_rfl) (by kernel_rfl) (by kernel_rfl) hF0.size KL ?_ ?_
      · refine ⟨?_, ?_, ?_, ?_, ?_, ?_, ?_, ?_, ?_, ?_, ?_, ?_, ?_, ?_, ?_, ?_, ?_, ?_, ?_, ?_, ?_, ?_, trivial⟩
        · refine asks_mk fun a W hS hh hd => ⟨wanted_yes rfl, ?_⟩
          exact giv_run (run_mv rfl (eval_tmp (hh 7 _ rfl (hF0.at 7 rfl)))) K0
        · refine asks_mk fun a W hS hh hd => ⟨wanted_yes rfl, ?_⟩
          exact giv_run (run_ld1 rfl (eval_tmp (hh 2 _ rfl (hF0.at 2 rfl))) (hB1.below (hM0.grow hS).below hB1.lt) (by kernel_rfl)) K1
        · refine asks_mk fun a W hS hh hd => ⟨wanted_yes rfl, ?_⟩
          exact giv_run (run_lss rfl (eval_tmp (hd.val (j := 0) (s := 8) (by kernel_rfl) K0)) (eval_tmp (hd.val (j := 1) (s := 9) (by kernel_rfl) K1)) (decide_eq_true (by omega))) K2
        · refine asks_mk fun a W hS hh hd => ⟨wanted_yes rfl, ?_⟩
          exact giv_run (run_mv rfl (eval_tmp (hd.val (j := 2) (s := 10) (by kernel_rfl) K2))) K3
        · refine asks_mk fun a W hS hh hd => ⟨wanted_of (j := 3) (s := 11) (by kernel_rfl) (hd.val (j := 3) (s := 11) (by kernel_rfl) K3), ?_⟩
          exact giv_run (run_ld1 rfl (eval_tmp (hh 3 _ rfl (hF0.at 3 rfl))) (hB2.below (hM0.grow hS).below hB2.lt) (by kernel_rfl)) K4
        · refine asks_mk fun a W hS hh hd => ⟨wanted_of (j := 3) (s := 11) (by kernel_rfl) (hd.val (j := 3) (s := 11) (by kernel_rfl) K3), ?_⟩
          exact giv_run (run_nilp rfl (eval_tmp (hd.val (j := 4) (s := 12) (by kernel_rfl) K4))) K5
        · refine asks_mk fun a W hS hh hd => ⟨wanted_of (j := 3) (s := 11) (by kernel_rfl) (hd.val (j := 3) (s := 11) (by kernel_rfl) K3), ?_⟩
          exact giv_run (run_fldA (m := 1) (s := 0) rfl (eval_tmp (hd.val (j := 5) (s := 13) (by kernel_rfl) K5)) Tryd.underlying80 rfl rfl (by kernel_rfl) (by decide)) K6
        · refine asks_mk fun a W hS hh hd => ⟨wanted_of (j := 3) (s := 11) (by kernel_rfl) (hd.val (j := 3) (s := 11) (by kernel_rfl) K3), ?_⟩
          exact giv_run (run_ldF rfl (eval_tmp (hd.val (j := 6) (s := 14) (by kernel_rfl) K6)) (hB.below (hM0.grow hS).below hB.lt) rfl (by kernel_rfl)) K7
        · refine asks_mk fun a W hS hh hd => ⟨wanted_of (j := 3) (s := 11) (by kernel_rfl) (hd.val (j := 3) (s := 11) (by kernel_rfl) K3), ?_⟩
          exact giv_run (run_mv rfl (eval_tmp (hh 0 _ rfl (hF0.at 0 rfl)))) K8
        · refine asks_mk fun a W hS hh hd => ⟨wanted_of (j := 3) (s := 11) (by kernel_rfl) (hd.val (j := 3) (s := 11) (by kernel_rfl) K3), ?_⟩
          exact giv_run (run_mv rfl (eval_tmp (hh 7 _ rfl (hF0.at 7 rfl)))) K9
        · refine asks_mk fun a W hS hh hd => ⟨wanted_of (j := 3) (s := 11) (by kernel_rfl) (hd.val (j := 3) (s := 11) (by kernel_rfl) K3), ?_⟩
          exact giv_run (run_add (r := ((j + n : Nat) : Int)) rfl (eval_tmp (hd.val (j := 8) (s := 16) (by kernel_rfl) K8)) (eval_tmp (hd.val (j := 9) (s := 17) (by kernel_rfl) K9)) (by rw [IntKind.wrap_i64]; omega)) K10
        · refine asks_mk fun a W hS hh hd => ⟨wanted_of (j := 3) (s := 11) (by kernel_rfl) (hd.val (j := 3) (s := 11) (by kernel_rfl) K3), ?_⟩
          exact giv_run (run_sAt (n := (j + n)) rfl (eval_tmp (hd.val (j := 7) (s := 15) (by kernel_rfl) K7)) (eval_tmp (hd.val (j := 10) (s := 18) (by kernel_rfl) K10)) Tryd.underlying9 rfl (by omega)) K11
        · refine asks_mk fun a W hS hh hd => ⟨wanted_of (j := 3) (s := 11) (by kernel_rfl) (hd.val (j := 3) (s := 11) (by kernel_rfl) K3), ?_⟩
          exact giv_run (run_ld1 rfl (eval_tmp (hh 3 _ rfl (hF0.at 3 rfl))) (hB2.below (hM0.grow hS).below hB2.lt) (by kernel_rfl)) K12
        · refine asks_mk fun a W hS hh hd => ⟨wanted_of (j := 3) (s := 11) (by kernel_rfl) (hd.val (j := 3) (s := 11) (by kernel_rfl) K3), ?_⟩
          exact giv_run (run_nilp rfl (eval_tmp (hd.val (j := 12) (s := 20) (by kernel_rfl) K12))) K13
        · refine asks_mk fun a W hS hh hd => ⟨wanted_of (j := 3) (s := 11) (by kernel_rfl) (hd.val (j := 3) (s := 11) (by kernel_rfl) K3), ?_⟩
          exact giv_run (run_fldA (m := 1) (s := 0) rfl (eval_tmp (hd.val (j := 13) (s := 21) (by kernel_rfl) K13)) Tryd.underlying80 rfl rfl (by kernel_rfl) (by decide)) K14
        · refine asks_mk fun a W hS hh hd => ⟨wanted_of (j := 3) (s := 11) (by kernel_rfl) (hd.val (j := 3) (s := 11) (by kernel_rfl) K3), ?_⟩
          exact giv_run (run_ldF rfl (eval_tmp (hd.val (j := 14) (s := 22) (by kernel_rfl) K14)) (hB.below (hM0.grow hS).below hB.lt) rfl (by kernel_rfl)) K15
        · refine asks_mk fun a W hS hh hd => ⟨wanted_of (j := 3) (s := 11) (by kernel_rfl) (hd.val (j := 3) (s := 11) (by kernel_rfl) K3), ?_⟩
          exact giv_run (run_mv rfl (eval_tmp (hh 1 _ rfl (hF0.at 1 rfl)))) K16
        · refine asks_mk fun a W hS hh hd => ⟨wanted_of (j := 3) (s := 11) (by kernel_rfl) (hd.val (j := 3) (s := 11) (by kernel_rfl) K3), ?_⟩
          exact giv_run (run_mv rfl (eval_tmp (hh 7 _ rfl (hF0.at 7 rfl)))) K17
        · refine asks_mk fun a W hS hh hd => ⟨wanted_of (j := 3) (s := 11) (by kernel_rfl) (hd.val (j := 3) (s := 11) (by kernel_rfl) K3), ?_⟩
          exact giv_run (run_add (r := ((p + n : Nat) : Int)) rfl (eval_tmp (hd.val (j := 16) (s := 24) (by kernel_rfl) K16)) (eval_tmp (hd.val (j := 17) (s := 25) (by kernel_rfl) K17)) (by rw [IntKind.wrap_i64]; omega)) K18
        · refine asks_mk fun a W hS hh hd => ⟨wanted_of (j := 3) (s := 11) (by kernel_rfl) (hd.val (j := 3) (s := 11) (by kernel_rfl) K3), ?_⟩
          exact giv_run (run_sAt (n := (p + n)) rfl (eval_tmp (hd.val (j := 15) (s := 23) (by kernel_rfl) K15)) (eval_tmp (hd.val (j := 18) (s := 26) (by kernel_rfl) K18)) Tryd.underlying9 rfl (by omega)) K19
        · refine asks_mk fun a W hS hh hd => ⟨wanted_of (j := 3) (s := 11) (by kernel_rfl) (hd.val (j := 3) (s := 11) (by kernel_rfl) K3), ?_⟩
          exact giv_run (run_eqi rfl (eval_tmp (hd.val (j := 11) (s := 19) (by kernel_rfl) K11)) (eval_tmp (hd.val (j := 19) (s := 27) (by kernel_rfl) K19)) (beq_eq_false_iff_ne.2 (by omega))) K20
        · refine asks_mk fun a W hS hh hd => ⟨wanted_yes rfl, ?_⟩
          exact giv_run (run_pick rfl (eval_tmp (hd.val (j := 3) (s := 11) (by kernel_rfl) K3)) (eval_tmp (hd.val (j := 20) (s := 28) (by kernel_rfl) K20)) rfl) K21
      · intro a1 w2 hb2 hK
        have e0 := hK.val (i := 0) (s := 8) (by kernel_rfl) K0
        have e1 := hK.val (i := 1) (s := 9) (by kernel_rfl) K1
        have e2 := hK.val (i := 2) (s := 10) (by kernel_rfl) K2
        have e3 := hK.val (i := 3) (s := 11) (by kernel_rfl) K3
        have e4 := hK.val (i := 4) (s := 12) (by kernel_rfl) K4
        have e5 := hK.val (i := 5) (s := 13) (by kernel_rfl) K5
        have e6 := hK.val (i := 6) (s := 14) (by kernel_rfl) K6
        have e7 := hK.val (i := 7) (s := 15) (by kernel_rfl) K7
        have e8 := hK.val (i := 8) (s := 16) (by kernel_rfl) K8
        have e9 := hK.val (i := 9) (s := 17) (by kernel_rfl) K9
        have e10 := hK.val (i := 10) (s := 18) (by kernel_rfl) K10
        have e11 := hK.val (i := 11) (s := 19) (by kernel_rfl) K11
        have e12 := hK.val (i := 12) (s := 20) (by kernel_rfl) K12
        have e13 := hK.val (i := 13) (s := 21) (by kernel_rfl) K13
        have e14 := hK.val (i := 14) (s := 22) (by kernel_rfl) K14
        have e15 := hK.val (i := 15) (s := 23) (by kernel_rfl) K15
        have e16 := hK.val (i := 16) (s := 24) (by kernel_rfl) K16
        have e17 := hK.val (i := 17) (s := 25) (by kernel_rfl) K17
        have e18 := hK.val (i := 18) (s := 26) (by kernel_rfl) K18
        have e19 := hK.val (i := 19) (s := 27) (by kernel_rfl) K19
        have e20 := hK.val (i := 20) (s := 28) (by kernel_rfl) K20
        have e21 := hK.val (i := 21) (s := 29) (by kernel_rfl) K21
        have hF1 : Fr a1 33 [(0, (.int .i64 (j : Int))), (1, (.int .i64 (p : Int))), (2, (.pointer (some ⟨gmo, 0, none⟩))), (3, (.pointer (some ⟨gbx, 0, none⟩))), (7, (.int .i64 (n : Int))), (29, (.bool false))] := (hK.fr hF0 [(.int .i64 (n : Int)), (.int .i64 (mo : Int)), (.bool true), (.bool true), (.pointer (some ⟨gp, 0, none⟩)), (.pointer (some ⟨gp, 0, none⟩)), (.pointer (some ⟨gp, 0, none⟩)), (.string ⟨s.toArray⟩), (.int .i64 (j : Int)), (.int .i64 (n : Int)), (.int .i64 ((j + n : Nat) : Int)), (.int .u8 ((bt s (j + n)).toNat : Int)), (.pointer (some ⟨gp, 0, none⟩)), (.pointer (some ⟨gp, 0, none⟩)), (.pointer (some ⟨gp, 0, none⟩)), (.string ⟨s.toArray⟩), (.int .i64 (p : Int)), (.int .i64 (n : Int)), (.int .i64 ((p + n : Nat) : Int)), (.int .u8 ((bt s (p + n)).toNat : Int)), (.bool false), (.bool false)] ⟨e0, e1, e2, e3, e4, e5, e6, e7, e8, e9, e10, e11, e12, e13, e14, e15, e16, e17, e18, e19, e20, e21, trivial⟩).sub ⟨rfl, rfl, rfl, rfl, rfl, rfl, trivial⟩
        have hM1 := hM0.grow hb2
        clear hK K0 e0 K1 e1 K2 e2 K3 e3 K4 e4 K5 e5 K6 e6 K7 e7 K8 e8 K9 e9 K10 e10 K11 e11 K12 e12 K13 e13 K14 e14 K15 e15 K16 e16 K17 e17 K18 e18 K19 e19 K20 e20 K21 e21
        clear hF0 hM0
        refine nx ?_
        refine wp_cond_false (hF1.ev 29 rfl) ?_
        refine wp_exit ?_
        refine nxExit ?_
        refine nxExit ?_
        refine bkHere ?_
        refine nx ?_
        refine wp_seq ?_
        refine wp_region_lit ?_
        refine sq (v := (.int .i64 (n : Int))) hF1 (wantedS rfl) (run_mv rfl (hF1.ev 7 rfl)) rfl (by decide) fun a2 hF2 => ?_
        refine sq (v := (.int .i64 (n : Int))) hF2 (wantedS rfl) (run_as rfl (hF2.ev 32 rfl)) rfl (by decide) fun a3 hF3 => ?_
        refine sqEnd ?_
        clear hF1 hF2
        refine nx ?_
        refine wp_ret ?_
        exact ret1 hF3 rfl rfl ⟨by rw [hres], hM1.below⟩
  · have hres : sameS s p (p - j) = n := sameS_eq (by omega) hal (.inl (by omega))
    refine wp_seq ?_
    refine wp_seq ?_
    obtain ⟨KL, hKL⟩ : ∃ KL, KL = [kval (.int .i64 (n : Int)), kval (.int .i64 (mo : Int)), kval (.bool false), kval (.bool false), kval undef, kval undef, kval undef, kval undef, kval undef, kval undef, kval undef, kval undef, kval undef, kval undef, kval undef, kval undef, kval undef, kval undef, kval undef, kval undef, kval undef, kval (.bool false)] := ⟨_, rfl⟩
    have K0 : KL.getD 0 kany = kval (.int .i64 (n : Int)) := by rw [hKL]; rfl
    have K1 : KL.getD 1 kany = kval (.int .i64 (mo : Int)) := by rw [hKL]; rfl
    have K2 : KL.getD 2 kany = kval (.bool false) := by rw [hKL]; rfl
    have K3 : KL.getD 3 kany = kval (.bool false) := by rw [hKL]; rfl
    have K4 : KL.getD 4 kany = kval undef := by rw [hKL]; rfl
    have K5 : KL.getD 5 kany = kval undef := by rw [hKL]; rfl
    have K6 : KL.getD 6 kany = kval undef := by rw [hKL]; rfl
    have K7 : KL.getD 7 kany = kval undef := by rw [hKL]; rfl
    have K8 : KL.getD 8 kany = kval undef := by rw [hKL]; rfl
    have K9 : KL.getD 9 kany = kval undef := by rw [hKL]; rfl
    have K10 : KL.getD 10 kany = kval undef := by rw [hKL]; rfl
    have K11 : KL.getD 11 kany = kval undef := by rw [hKL]; rfl
    have K12 : KL.getD 12 kany = kval undef := by rw [hKL]; rfl
    have K13 : KL.getD 13 kany = kval undef := by rw [hKL]; rfl
    have K14 : KL.getD 14 kany = kval undef := by rw [hKL]; rfl
    have K15 : KL.getD 15 kany = kval undef := by rw [hKL]; rfl
    have K16 : KL.getD 16 kany = kval undef := by rw [hKL]; rfl
    have K17 : KL.getD 17 kany = kval undef := by rw [hKL]; rfl
    have K18 : KL.getD 18 kany = kval undef := by rw [hKL]; rfl
    have K19 : KL.getD 19 kany = kval undef := by rw [hKL]; rfl
    have K20 : KL.getD 20 kany = kval undef := by rw [hKL]; rfl
    have K21 : KL.getD 21 kany = kval (.bool false) := by rw [hKL]; rfl
    clear hKL
    refine wp_region_kd 33 (by kernel_rfl) (by kernel_rfl) (by kernel_rfl) hF0.size KL ?_ ?_
    · refine ⟨?_, ?_, ?_, ?_, ?_, ?_, ?_, ?_, ?_, ?_, ?_, ?_, ?_, ?_, ?_, ?_, ?_, ?_, ?_, ?_, ?_, ?_, trivial⟩
      · refine asks_mk fun a W hS hh hd => ⟨wanted_yes rfl, ?_⟩
        exact giv_run (run_mv rfl (eval_tmp (hh 7 _ rfl (hF0.at 7 rfl)))) K0
      · refine asks_mk fun a W hS hh hd => ⟨wanted_yes rfl, ?_⟩
        exact giv_run (run_ld1 rfl (eval_tmp (hh 2 _ rfl (hF0.at 2 rfl))) (hB1.below (hM0.grow hS).below hB1.lt) (by kernel_rfl)) K1
      · refine asks_mk fun a W hS hh hd => ⟨wanted_yes rfl, ?_⟩
        exact giv_run (run_lss rfl (eval_tmp (hd.val (j := 0) (s := 8) (by kernel_rfl) K0)) (eval_tmp (hd.val (j := 1) (s := 9) (by kernel_rfl) K1)) (decide_eq_false (by omega))) K2
      · refine asks_mk fun a W hS hh hd => ⟨wanted_yes rfl, ?_⟩
        exact giv_run (run_mv rfl (eval_tmp (hd.val (j := 2) (s := 10) (by kernel_rfl) K2))) K3
      · exact asks_skip fun a W hS hh hd => ⟨unwanted_of (j := 3) (s := 11) (want := true) (by kernel_rfl) (hd.val (j := 3) (s := 11) (by kernel_rfl) K3), show kT KL 4 undef W by unfold kT; rw [K4]; rfl⟩
      · exact asks_skip fun a W hS hh hd => ⟨unwanted_of (j := 3) (s := 11) (want := true) (by kernel_rfl) (hd.val (j := 3) (s := 11) (by kernel_rfl) K3), show kT KL 5 undef W by unfold kT; rw [K5]; rfl⟩
      · exact asks_skip fun a W hS hh hd => ⟨unwanted_of (j := 3) (s := 11) (want := true) (by kernel_rfl) (hd.val (j := 3) (s := 11) (by kernel_rfl) K3), show kT KL 6 undef W by unfold kT; rw [K6]; rfl⟩
      · exact asks_skip fun a W hS hh hd => ⟨unwanted_of (j := 3) (s := 11) (want := true) (by kernel_rfl) (hd.val (j := 3) (s := 11) (by kernel_rfl) K3), show kT KL 7 undef W by unfold kT; rw [K7]; rfl⟩
      · exact asks_skip fun a W hS hh hd => ⟨unwanted_of (j := 3) (s := 11) (want := true) (by kernel_rfl) (hd.val (j := 3) (s := 11) (by kernel_rfl) K3), show kT KL 8 undef W by unfold kT; rw [K8]; rfl⟩
      · exact asks_skip fun a W hS hh hd => ⟨unwanted_of (j := 3) (s := 11) (want := true) (by kernel_rfl) (hd.val (j := 3) (s := 11) (by kernel_rfl) K3), show kT KL 9 undef W by unfold kT; rw [K9]; rfl⟩
      · exact asks_skip fun a W hS hh hd => ⟨unwanted_of (j := 3) (s := 11) (want := true) (by kernel_rfl) (hd.val (j := 3) (s := 11) (by kernel_rfl) K3), show kT KL 10 undef W by unfold kT; rw [K10]; rfl⟩
      · exact asks_skip fun a W hS hh hd => ⟨unwanted_of (j := 3) (s := 11) (want := true) (by kernel_rfl) (hd.val (j := 3) (s := 11) (by kernel_rfl) K3), show kT KL 11 undef W by unfold kT; rw [K11]; rfl⟩
      · exact asks_skip fun a W hS hh hd => ⟨unwanted_of (j := 3) (s := 11) (want := true) (by kernel_rfl) (hd.val (j := 3) (s := 11) (by kernel_rfl) K3), show kT KL 12 undef W by unfold kT; rw [K12]; rfl⟩
      · exact asks_skip fun a W hS hh hd => ⟨unwanted_of (j := 3) (s := 11) (want := true) (by kernel_rfl) (hd.val (j := 3) (s := 11) (by kernel_rfl) K3), show kT KL 13 undef W by unfold kT; rw [K13]; rfl⟩
      · exact asks_skip fun a W hS hh hd => ⟨unwanted_of (j := 3) (s := 11) (want := true) (by kernel_rfl) (hd.val (j := 3) (s := 11) (by kernel_rfl) K3), show kT KL 14 undef W by unfold kT; rw [K14]; rfl⟩
      · exact asks_skip fun a W hS hh hd => ⟨unwanted_of (j := 3) (s := 11) (want := true) (by kernel_rfl) (hd.val (j := 3) (s := 11) (by kernel_rfl) K3), show kT KL 15 undef W by unfold kT; rw [K15]; rfl⟩
      · exact asks_skip fun a W hS hh hd => ⟨unwanted_of (j := 3) (s := 11) (want := true) (by kernel_rfl) (hd.val (j := 3) (s := 11) (by kernel_rfl) K3), show kT KL 16 undef W by unfold kT; rw [K16]; rfl⟩
      · exact asks_skip fun a W hS hh hd => ⟨unwanted_of (j := 3) (s := 11) (want := true) (by kernel_rfl) (hd.val (j := 3) (s := 11) (by kernel_rfl) K3), show kT KL 17 undef W by unfold kT; rw [K17]; rfl⟩
      · exact asks_skip fun a W hS hh hd => ⟨unwanted_of (j := 3) (s := 11) (want := true) (by kernel_rfl) (hd.val (j := 3) (s := 11) (by kernel_rfl) K3), show kT KL 18 undef W by unfold kT; rw [K18]; rfl⟩
      · exact asks_skip fun a W hS hh hd => ⟨unwanted_of (j := 3) (s := 11) (want := true) (by kernel_rfl) (hd.val (j := 3) (s := 11) (by kernel_rfl) K3), show kT KL 19 undef W by unfold kT; rw [K19]; rfl⟩
      · exact asks_skip fun a W hS hh hd => ⟨unwanted_of (j := 3) (s := 11) (want := true) (by kernel_rfl) (hd.val (j := 3) (s := 11) (by kernel_rfl) K3), show kT KL 20 undef W by unfold kT; rw [K20]; rfl⟩
      · refine asks_mk fun a W hS hh hd => ⟨wanted_yes rfl, ?_⟩
        exact giv_run (run_pick rfl (eval_tmp (hd.val (j := 3) (s := 11) (by kernel_rfl) K3)) (eval_tmp (hd.val (j := 20) (s := 28) (by kernel_rfl) K20)) rfl) K21
    · intro a1 w2 hb2 hK
      have e0 := hK.val (i := 0) (s := 8) (by kernel_rfl) K0
      have e1 := hK.val (i := 1) (s := 9) (by kernel_rfl) K1
      have e2 := hK.val (i := 2) (s := 10) (by kernel_rfl) K2
      have e3 := hK.val (i := 3) (s := 11) (by kernel_rfl) K3
      have e4 := hK.val (i := 4) (s := 12) (by kernel_rfl) K4
      have e5 := hK.val (i := 5) (s := 13) (by kernel_rfl) K5
      have e6 := hK.val (i := 6) (s := 14) (by kernel_rfl) K6
      have e7 := hK.val (i := 7) (s := 15) (by kernel_rfl) K7
      have e8 := hK.val (i := 8) (s := 16) (by kernel_rfl) K8
      have e9 := hK.val (i := 9) (s := 17) (by kernel_rfl) K9
      have e10 := hK.val (i := 10) (s := 18) (by kernel_rfl) K10
      have e11 := hK.val (i := 11) (s := 19) (by kernel_rfl) K11
      have e12 := hK.val (i := 12) (s := 20) (by kernel_rfl) K12
      have e13 := hK.val (i := 13) (s := 21) (by kernel_rfl) K13
      have e14 := hK.val (i := 14) (s := 22) (by kernel_rfl) K14
      have e15 := hK.val (i := 15) (s := 23) (by kernel_rfl) K15
      have e16 := hK.val (i := 16) (s := 24) (by kernel_rfl) K16
      have e17 := hK.val (i := 17) (s := 25) (by kernel_rfl) K17
      have e18 := hK.val (i := 18) (s := 26) (by kernel_rfl) K18
      have e19 := hK.val (i := 19) (s := 27) (by kernel_rfl) K19
      have e20 := hK.val (i := 20) (s := 28) (by kernel_rfl) K20
      have e21 := hK.val (i := 21) (s := 29) (by kernel_rfl) K21
      have hF1 : Fr a1 33 [(0, (.int .i64 (j : Int))), (1, (.int .i64 (p : Int))), (2, (.pointer (some ⟨gmo, 0, none⟩))), (3, (.pointer (some ⟨gbx, 0, none⟩))), (7, (.int .i64 (n : Int))), (29, (.bool false))] := (hK.fr hF0 [(.int .i64 (n : Int)), (.int .i64 (mo : Int)), (.bool false), (.bool false), undef, undef, undef, undef, undef, undef, undef, undef, undef, undef, undef, undef, undef, undef, undef, undef, undef, (.bool false)] ⟨e0, e1, e2, e3, e4, e5, e6, e7, e8, e9, e10, e11, e12, e13, e14, e15, e16, e17, e18, e19, e20, e21, trivial⟩).sub ⟨rfl, rfl, rfl, rfl, rfl, rfl, trivial⟩
      have hM1 := hM0.grow hb2
      clear hK K0 e0 K1 e1 K2 e2 K3 e3 K4 e4 K5 e5 K6 e6 K7 e7 K8 e8 K9 e9 K10 e10 K11 e11 K12 e12 K13 e13 K14 e14 K15 e15 K16 e16 K17 e17 K18 e18 K19 e19 K20 e20 K21 e21
      clear hF0 hM0
      refine nx ?_
      refine wp_cond_false (hF1.ev 29 rfl) ?_
      refine wp_exit ?_
      refine nxExit ?_
      refine nxExit ?_
      refine bkHere ?_
      refine nx ?_
      refine wp_seq ?_
      refine wp_region_lit ?_
      refine sq (v := (.int .i64 (n : Int))) hF1 (wantedS rfl) (run_mv rfl (hF1.ev 7 rfl)) rfl (by decide) fun a2 hF2 => ?_
      refine sq (v := (.int .i64 (n : Int))) hF2 (wantedS rfl) (run_as rfl (hF2.ev 32 rfl)) rfl (by decide) fun a3 hF3 => ?_
      refine sqEnd ?_
      clear hF1 hF2
      refine nx ?_
      refine wp_ret ?_
      exact ret1 hF3 rfl rfl ⟨by rw [hres], hM1.below⟩
end Go.Proofs.YtpobmaklgnioeaaDoor
