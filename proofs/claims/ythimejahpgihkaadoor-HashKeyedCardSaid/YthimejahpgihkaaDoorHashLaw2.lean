/- The walk of the law HashKeyed. Printed by gen_hlaw2.py. -/
import Derived.Test.YthimejahpgihkaaDoorHashLaw1
import Derived.Test.YthimejahpgihkaaDoorAsk
namespace Go.Proofs.YthimejahpgihkaaDoor
open Go.RowKit

set_option maxRecDepth 100000 in
set_option maxHeartbeats 1000000 in
theorem lawKeyed_any (k s : List UInt8) (w : World) (hG : Glob w) (hk : k.length = 32) (hs : s.length ≤ maxLen) :
    Calls Tryd.prog 4 #[.agg (cells8 k), .string ⟨s.toArray⟩] w fun e w' => e = .returned (.bool true) ∧ Below w.heap.size w w' := by
  have HG := Lib.hid hG
  have HK := Lib.hid hk
  clear hG hk
  unfold maxLen at hs
  have HK8 : Hid ((cells8 k).size = 32) := Lib.hid (by rw [cells8_size]; exact HK.out)
  have HE := Lib.hid (eqSame (keyedS k s) (keyedS_len k s))
  go_enter Tryd.func4, Tryd.ntmps4
  go_wp2_with fail
  refine (alive_any _ (HG.out.alloc _)).mono ?_
  rintro e w1 ⟨rfl, hb⟩
  have hB1 : Blk w1 w.heap.size 28 (cells8 k) := (Blk.new w 28 (cells8 k)).below hb (by simp)
  have hb1 : Below w.heap.size w w1 := ((Below.refl _ _).alloc (Nat.le_refl _) _).trans (hb.mono (by simp))
  have HG1 := Lib.hid (HG.out.below hb1)
  clear hb
  go_upto_region 3 with (fail)
  by_cases hlen : 700 < s.length
  · have hdl : decide ((700 : Int) < ((s.length : Nat) : Int)) = true := by simp; omega
    obtain ⟨KL, hKL⟩ : ∃ KL, KL = [kval (.string ⟨s.toArray⟩), kval (.int .i64 (s.length : Int)), kval (.bool true), kval (.bool true), kval undef, kval undef, kval undef, kval undef, kval undef, kval undef, kval undef, kval undef, kval undef, kval (.bool true), kval (.bool true)] := ⟨_, rfl⟩
    have K0 : KL.getD 0 kany = kval (.string ⟨s.toArray⟩) := by rw [hKL]; rfl
    have K1 : KL.getD 1 kany = kval (.int .i64 (s.length : Int)) := by rw [hKL]; rfl
    have K2 : KL.getD 2 kany = kval (.bool true) := by rw [hKL]; rfl
    have K3 : KL.getD 3 kany = kval (.bool true) := by rw [hKL]; rfl
    have K4 : KL.getD 4 kany = kval undef := by rw [hKL]; rfl
    have K5 : KL.getD 5 kany = kval undef := by rw [hKL]; rfl
    have K6 : KL.getD 6 kany = kval undef := by rw [hKL]; rfl
    have K7 : KL.getD 7 kany = kval undef := by rw [hKL]; rfl
    have K8 : KL.getD 8 kany = kval undef := by rw [hKL]; rfl
    have K9 : KL.getD 9 kany = kval undef := by rw [hKL]; rfl
    have K10 : KL.getD 10 kany = kval undef := by rw [hKL]; rfl
    have K11 : KL.getD 11 kany = kval undef := by rw [hKL]; rfl
    have K12 : KL.getD 12 kany = kval undef := by rw [hKL]; rfl
    have K13 : KL.getD 13 kany = kval (.bool true) := by rw [hKL]; rfl
    have K14 : KL.getD 14 kany = kval (.bool true) := by rw [hKL]; rfl
    clear hKL
    refine wp_region_kd 21 (by kernel_rfl) (by kernel_rfl) (by kernel_rfl) rfl KL ?_ ?_
    · refine ⟨?_, ?_, ?_, ?_, ?_, ?_, ?_, ?_, ?_, ?_, ?_, ?_, ?_, ?_, ?_, trivial⟩
      · refine asks_mk fun a W hS hh hd => ⟨wanted_yes rfl, ?_⟩
        have e0 := hh 1 _ rfl rfl
        have E0 := eval_tmp e0
        exact giv_move rfl E0 K0
      · refine asks_mk fun a W hS hh hd => ⟨wanted_yes rfl, ?_⟩
        have e0 := hd.val (j := 0) (s := 7) (by kernel_rfl) K0
        have E0 := eval_tmp e0
        refine giv_val (c := (.int .i64 (s.length : Int))) ?_ K1 rfl
        go_simp
      · refine asks_mk fun a W hS hh hd => ⟨wanted_yes rfl, ?_⟩
        have e0 := hd.val (j := 1) (s := 8) (by kernel_rfl) K1
        have E0 := eval_tmp e0
        refine giv_val (c := (.bool true)) ?_ K2 rfl
        go_simp
      · refine asks_mk fun a W hS hh hd => ⟨wanted_yes rfl, ?_⟩
        have e0 := hd.val (j := 2) (s := 9) (by kernel_rfl) K2
        have E0 := eval_tmp e0
        exact giv_move rfl E0 K3
      · exact asks_skip fun a W hS hh hd => ⟨unwanted_of (j := 3) (s := 10) (want := false) (by kernel_rfl) (hd.val (j := 3) (s := 10) (by kernel_rfl) K3), show kT KL 4 undef W by unfold kT; rw [K4]; rfl⟩
      · exact asks_skip fun a W hS hh hd => ⟨unwanted_of (j := 3) (s := 10) (want := false) (by kernel_rfl) (hd.val (j := 3) (s := 10) (by kernel_rfl) K3), show kT KL 5 undef W by unfold kT; rw [K5]; rfl⟩
      · exact asks_skip fun a W hS hh hd => ⟨unwanted_of (j := 3) (s := 10) (want := false) (by kernel_rfl) (hd.val (j := 3) (s := 10) (by kernel_rfl) K3), show kT KL 6 undef W by unfold kT; rw [K6]; rfl⟩
      · exact asks_skip fun a W hS hh hd => ⟨unwanted_of (j := 3) (s := 10) (want := false) (by kernel_rfl) (hd.val (j := 3) (s := 10) (by kernel_rfl) K3), show kT KL 7 undef W by unfold kT; rw [K7]; rfl⟩
      · exact asks_skip fun a W hS hh hd => ⟨unwanted_of (j := 3) (s := 10) (want := false) (by kernel_rfl) (hd.val (j := 3) (s := 10) (by kernel_rfl) K3), show kT KL 8 undef W by unfold kT; rw [K8]; rfl⟩
      · exact asks_skip fun a W hS hh hd => ⟨unwanted_of (j := 3) (s := 10) (want := false) (by kernel_rfl) (hd.val (j := 3) (s := 10) (by kernel_rfl) K3), show kT KL 9 undef W by unfold kT; rw [K9]; rfl⟩
      · exact asks_skip fun a W hS hh hd => ⟨unwanted_of (j := 3) (s := 10) (want := false) (by kernel_rfl) (hd.val (j := 3) (s := 10) (by kernel_rfl) K3), show kT KL 10 undef W by unfold kT; rw [K10]; rfl⟩
      · exact asks_skip fun a W hS hh hd => ⟨unwanted_of (j := 3) (s := 10) (want := false) (by kernel_rfl) (hd.val (j := 3) (s := 10) (by kernel_rfl) K3), show kT KL 11 undef W by unfold kT; rw [K11]; rfl⟩
      · exact asks_skip fun a W hS hh hd => ⟨unwanted_of (j := 3) (s := 10) (want := false) (by kernel_rfl) (hd.val (j := 3) (s := 10) (by kernel_rfl) K3), show kT KL 12 undef W by unfold kT; rw [K12]; rfl⟩
      · refine asks_mk fun a W hS hh hd => ⟨wanted_yes rfl, ?_⟩
        have e0 := hd.val (j := 3) (s := 10) (by kernel_rfl) K3
        have E0 := eval_tmp e0
        have e2 := hd.val (j := 12) (s := 19) (by kernel_rfl) K12
        have E2 := eval_tmp e2
        refine giv_val (c := (.bool true)) ?_ K13 rfl
        go_simp
      · refine asks_mk fun a W hS hh hd => ⟨wanted_yes rfl, ?_⟩
        have e0 := hd.val (j := 13) (s := 20) (by kernel_rfl) K13
        have E0 := eval_tmp e0
        exact giv_assign rfl E0 K14
    · intro a W hS hK
      have e4 := hK.val (i := 14) (s := 4) (by kernel_rfl) K14
      have hdf := hK.defers
      clear K0 K1 K2 K3 K4 K5 K6 K7 K8 K9 K10 K11 K12 K13 K14 hK
      go_wp2
      exact bodyPost_ret (results_tmp rfl a.tmps _ W) hdf ⟨by simp [e4], hb1.trans (hS.mono hb1.size)⟩
  · have hdl : decide ((700 : Int) < ((s.length : Nat) : Int)) = false := by simp; omega
    obtain ⟨KL, hKL⟩ : ∃ KL, KL = [kval (.string ⟨s.toArray⟩), kval (.int .i64 (s.length : Int)), kval (.bool false), kval (.bool false), kval (.agg (cells8 k)), kval (.string ⟨s.toArray⟩), kstrs [s], kval (.agg (cells8 (keyedS k s))), kval (.agg (cells8 k)), kval (.string ⟨s.toArray⟩), kstrs [s], kval (.agg (cells8 (keyedS k s))), kval (.bool true), kval (.bool true), kval (.bool true)] := ⟨_, rfl⟩
    have K0 : KL.getD 0 kany = kval (.string ⟨s.toArray⟩) := by rw [hKL]; rfl
    have K1 : KL.getD 1 kany = kval (.int .i64 (s.length : Int)) := by rw [hKL]; rfl
    have K2 : KL.getD 2 kany = kval (.bool false) := by rw [hKL]; rfl
    have K3 : KL.getD 3 kany = kval (.bool false) := by rw [hKL]; rfl
    have K4 : KL.getD 4 kany = kval (.agg (cells8 k)) := by rw [hKL]; rfl
    have K5 : KL.getD 5 kany = kval (.string ⟨s.toArray⟩) := by rw [hKL]; rfl
    have K6 : KL.getD 6 kany = kstrs [s] := by rw [hKL]; rfl
    have K7 : KL.getD 7 kany = kval (.agg (cells8 (keyedS k s))) := by rw [hKL]; rfl
    have K8 : KL.getD 8 kany = kval (.agg (cells8 k)) := by rw [hKL]; rfl
    have K9 : KL.getD 9 kany = kval (.string ⟨s.toArray⟩) := by rw [hKL]; rfl
    have K10 : KL.getD 10 kany = kstrs [s] := by rw [hKL]; rfl
    have K11 : KL.getD 11 kany = kval (.agg (cells8 (keyedS k s))) := by rw [hKL]; rfl
    have K12 : KL.getD 12 kany = kval (.bool true) := by rw [hKL]; rfl
    have K13 : KL.getD 13 kany = kval (.bool true) := by rw [hKL]; rfl
    have K14 : KL.getD 14 kany = kval (.bool true) := by rw [hKL]; rfl
    clear hKL
    refine wp_region_kd 21 (by kernel_rfl) (by kernel_rfl) (by kernel_rfl) rfl KL ?_ ?_
    · refine ⟨?_, ?_, ?_, ?_, ?_, ?_, ?_, ?_, ?_, ?_, ?_, ?_, ?_, ?_, ?_, trivial⟩
      · refine asks_mk fun a W hS hh hd => ⟨wanted_yes rfl, ?_⟩
        have e0 := hh 1 _ rfl rfl
        have E0 := eval_tmp e0
        exact giv_move rfl E0 K0
      · refine asks_mk fun a W hS hh hd => ⟨wanted_yes rfl, ?_⟩
        have e0 := hd.val (j := 0) (s := 7) (by kernel_rfl) K0
        have E0 := eval_tmp e0
        refine giv_val (c := (.int .i64 (s.length : Int))) ?_ K1 rfl
        go_simp
      · refine asks_mk fun a W hS hh hd => ⟨wanted_yes rfl, ?_⟩
        have e0 := hd.val (j := 1) (s := 8) (by kernel_rfl) K1
        have E0 := eval_tmp e0
        refine giv_val (c := (.bool false)) ?_ K2 rfl
        go_simp
      · refine asks_mk fun a W hS hh hd => ⟨wanted_yes rfl, ?_⟩
        have e0 := hd.val (j := 2) (s := 9) (by kernel_rfl) K2
        have E0 := eval_tmp e0
        exact giv_move rfl E0 K3
      · refine asks_mk fun a W hS hh hd => ⟨wanted_of (j := 3) (s := 10) (by kernel_rfl) (hd.val (j := 3) (s := 10) (by kernel_rfl) K3), ?_⟩
        have e0 := hh 2 _ rfl rfl
        have E0 := eval_tmp e0
        exact giv_loadB hS 28 (.tmp 2) rfl w.heap.size E0 hB1 Tryd.underlying28 rfl sz32k HK8.out K4
      · refine asks_mk fun a W hS hh hd => ⟨wanted_of (j := 3) (s := 10) (by kernel_rfl) (hd.val (j := 3) (s := 10) (by kernel_rfl) K3), ?_⟩
        have e0 := hh 1 _ rfl rfl
        have E0 := eval_tmp e0
        exact giv_move rfl E0 K5
      · refine asks_mk fun a W hS hh hd => ⟨wanted_of (j := 3) (s := 10) (by kernel_rfl) (hd.val (j := 3) (s := 10) (by kernel_rfl) K3), ?_⟩
        have e0 := hd.val (j := 5) (s := 12) (by kernel_rfl) K5
        have E0 := eval_tmp e0
        refine giv_strs [s] 9 ?_ K6
        go_simp
        rfl
      · refine asks_mk fun a W hS hh hd => ⟨wanted_of (j := 3) (s := 10) (by kernel_rfl) (hd.val (j := 3) (s := 10) (by kernel_rfl) K3), ?_⟩
        have e0 := hd.val (j := 4) (s := 11) (by kernel_rfl) K4
        have E0 := eval_tmp e0
        obtain ⟨v1, e1, s1⟩ := hd.strs (j := 6) (s := 13) (by kernel_rfl) K6
        have E1 := eval_tmp e1
        refine giv_call (f := 12) (args := #[(.agg (cells8 k)), v1]) ?_ ?_ K7
        · go_simp
        · refine (show keyedS k ([s].flatten) = keyedS k s by simp) ▸ keyed_any k [s] _ W HK.out (HG1.out.below hS) s1 (by simp; omega) (by simp)
      · refine asks_mk fun a W hS hh hd => ⟨wanted_of (j := 3) (s := 10) (by kernel_rfl) (hd.val (j := 3) (s := 10) (by kernel_rfl) K3), ?_⟩
        have e0 := hh 2 _ rfl rfl
        have E0 := eval_tmp e0
        exact giv_loadB hS 28 (.tmp 2) rfl w.heap.size E0 hB1 Tryd.underlying28 rfl sz32k HK8.out K8
      · refine asks_mk fun a W hS hh hd => ⟨wanted_of (j := 3) (s := 10) (by kernel_rfl) (hd.val (j := 3) (s := 10) (by kernel_rfl) K3), ?_⟩
        have e0 := hh 1 _ rfl rfl
        have E0 := eval_tmp e0
        exact giv_move rfl E0 K9
      · refine asks_mk fun a W hS hh hd => ⟨wanted_of (j := 3) (s := 10) (by kernel_rfl) (hd.val (j := 3) (s := 10) (by kernel_rfl) K3), ?_⟩
        have e0 := hd.val (j := 9) (s := 16) (by kernel_rfl) K9
        have E0 := eval_tmp e0
        refine giv_strs [s] 9 ?_ K10
        go_simp
        rfl
      · refine asks_mk fun a W hS hh hd => ⟨wanted_of (j := 3) (s := 10) (by kernel_rfl) (hd.val (j := 3) (s := 10) (by kernel_rfl) K3), ?_⟩
        have e0 := hd.val (j := 8) (s := 15) (by kernel_rfl) K8
        have E0 := eval_tmp e0
        obtain ⟨v1, e1, s1⟩ := hd.strs (j := 10) (s := 17) (by kernel_rfl) K10
        have E1 := eval_tmp e1
        refine giv_call (f := 13) (args := #[(.agg (cells8 k)), v1]) ?_ ?_ K11
        · go_simp
        · refine (show keyedS k ([s].flatten) = keyedS k s by simp) ▸ rkeyed_any k [s] _ W HK.out s1 (by simp; omega) (by simp)
      · refine asks_mk fun a W hS hh hd => ⟨wanted_of (j := 3) (s := 10) (by kernel_rfl) (hd.val (j := 3) (s := 10) (by kernel_rfl) K3), ?_⟩
        have e0 := hd.val (j := 7) (s := 14) (by kernel_rfl) K7
        have E0 := eval_tmp e0
        have e1 := hd.val (j := 11) (s := 18) (by kernel_rfl) K11
        have E1 := eval_tmp e1
        exact giv_eql 24 24 (.tmp 14) (.tmp 18) rfl E0 E1 (by kernel_rfl) HE.out K12
      · refine asks_mk fun a W hS hh hd => ⟨wanted_yes rfl, ?_⟩
        have e0 := hd.val (j := 3) (s := 10) (by kernel_rfl) K3
        have E0 := eval_tmp e0
        have e2 := hd.val (j := 12) (s := 19) (by kernel_rfl) K12
        have E2 := eval_tmp e2
        refine giv_val (c := (.bool true)) ?_ K13 rfl
        go_simp
      · refine asks_mk fun a W hS hh hd => ⟨wanted_yes rfl, ?_⟩
        have e0 := hd.val (j := 13) (s := 20) (by kernel_rfl) K13
        have E0 := eval_tmp e0
        exact giv_assign rfl E0 K14
    · intro a W hS hK
      have e4 := hK.val (i := 14) (s := 4) (by kernel_rfl) K14
      have hdf := hK.defers
      clear K0 K1 K2 K3 K4 K5 K6 K7 K8 K9 K10 K11 K12 K13 K14 hK
      go_wp2
      exact bodyPost_ret (results_tmp rfl a.tmps _ W) hdf ⟨by simp [e4], hb1.trans (hS.mono hb1.size)⟩
end Go.Proofs.YthimejahpgihkaaDoor
