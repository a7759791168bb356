/- The walk of the law HashFilled. Printed by gen_hlaw4.py. -/
import Derived.Test.YthimejahpgihkaaDoorHashLaw1
import Derived.Test.YthimejahpgihkaaDoorAsk
namespace Go.Proofs.YthimejahpgihkaaDoor
open Go.RowKit

attribute [local go_sem] str_app
set_option maxRecDepth 100000 in
set_option maxHeartbeats 2000000 in
theorem lawFilled_any (s : List UInt8) (b : UInt8) (k : List UInt8) (w : World) (hG : Glob w) (_hs : s.length ≤ maxLen) (hk : k.length = 32) :
    Calls Tryd.prog 6 #[.string ⟨s.toArray⟩, .int .u8 (b.toNat : Int), .agg (cells8 k)] w fun e w' => e = .returned (.bool true) ∧ Below w.heap.size w w' := by
  have HG := Lib.hid hG
  have HK := Lib.hid hk
  clear hG hk
  unfold maxLen at _hs
  have hbb := b.toNat_lt
  have HK8 : Hid ((cells8 k).size = 32) := Lib.hid (by rw [cells8_size]; exact HK.out)
  go_enter Tryd.func6, Tryd.ntmps6
  go_wp2_with fail
  refine (alive_any _ (HG.out.alloc _)).mono ?_
  rintro e w1 ⟨rfl, hb⟩
  have hB2 : Blk w1 w.heap.size 28 (cells8 k) := (Blk.new w 28 (cells8 k)).below hb (by simp)
  have hb1 : Below w.heap.size w w1 := ((Below.refl _ _).alloc (Nat.le_refl _) _).trans (hb.mono (by simp))
  have HG2 := Lib.hid (HG.out.below hb1)
  clear hb
  go_wp2_with fail
  go_loop [8] (fun v => ∃ t : List UInt8, (t.length ≤ s.length ∨ t.length ≤ 300) ∧ v = .string ⟨t.toArray⟩) (fun v => 300 - textLen v)
  case atStart => exact ⟨s, .inl (Nat.le_refl _), rfl⟩
  case round =>
    obtain ⟨t, ht, rfl⟩ := hrel
    have hn0 : 0 ≤ 64 * ((b.toNat : Int) % 4) := by omega
    have hn1 : 64 * ((b.toNat : Int) % 4) ≤ 192 := by omega
    by_cases h1 : (t.length : Int) < 64 * ((b.toNat : Int) % 4) + 1
    · have h2 : t.length < 300 := by omega
      have hd1 : decide ((t.length : Int) < 64 * ((b.toNat : Int) % 4) + 1) = true := by simp; omega
      have hd2 : decide ((t.length : Int) < 300) = true := by simp; omega
      go_wp2
      go_round
      case rel => exact ⟨t ++ [0], .inr (by rw [List.length_append]; simp; omega), by first | rfl | simp⟩
      case measure => rw [textLen_mk, textLen_mk, List.length_append]; simp; omega
    · have hd1 : decide ((t.length : Int) < 64 * ((b.toNat : Int) % 4) + 1) = false := by simp; omega
      by_cases h4 : 400 < t.length
      · have hd4 : decide ((400 : Int) < (t.length : Int)) = true := by simp; omega
        go_wp2
        go_ret
        exact ⟨rfl, hb1⟩
      · have hd4 : decide ((400 : Int) < (t.length : Int)) = false := by simp; omega
        go_upto_region 9 with (fail)
        clear hd1 hd4
        go_upto_region 10 with (fail)
        obtain ⟨u, hu, hul⟩ : ∃ u : List UInt8, (⟨t.toArray⟩ : ByteArray).extract 0 (t.length - 1) = ⟨u.toArray⟩ ∧ u.length ≤ t.length := ⟨(t.drop 0).take (t.length - 1 - 0), str_mid _ _ _, by rw [List.length_take, List.drop_zero]; omega⟩
        rw [hu]
        clear hu
        obtain ⟨KL, hKL⟩ : ∃ KL, KL = [kval (.string ⟨t.toArray⟩), kstrs [t], kval (.agg (cells8 (sumS t))), kval (.string ⟨t.toArray⟩), kval (.agg (cells8 (sumS t))), kval (.bool true), kval (.bool true), kval (.string ⟨u.toArray⟩), kstrs [u], kval (.agg (cells8 (sumS u))), kval (.string ⟨u.toArray⟩), kval (.agg (cells8 (sumS u))), kval (.bool true), kval (.bool true), kval (.bool true), kval (.agg (cells8 k)), kval (.string ⟨t.toArray⟩), kstrs [t], kval (.agg (cells8 (keyedS k t))), kval (.agg (cells8 k)), kval (.string ⟨t.toArray⟩), kstrs [t], kval (.agg (cells8 (keyedS k t))), kval (.bool true), kval (.bool true), kval (.bool true), kval (.agg (cells8 k)), kval (.string ⟨u.toArray⟩), kstrs [u], kval (.agg (cells8 (keyedS k u))), kval (.agg (cells8 k)), kval (.string ⟨u.toArray⟩), kstrs [u], kval (.agg (cells8 (keyedS k u))), kval (.bool true), kval (.bool true), kval (.bool true)] := ⟨_, rfl⟩
        have K0 : KL.getD 0 kany = kval (.string ⟨t.toArray⟩) := by rw [hKL]; rfl
        have K1 : KL.getD 1 kany = kstrs [t] := by rw [hKL]; rfl
        have K2 : KL.getD 2 kany = kval (.agg (cells8 (sumS t))) := by rw [hKL]; rfl
        have K3 : KL.getD 3 kany = kval (.string ⟨t.toArray⟩) := by rw [hKL]; rfl
        have K4 : KL.getD 4 kany = kval (.agg (cells8 (sumS t))) := by rw [hKL]; rfl
        have K5 : KL.getD 5 kany = kval (.bool true) := by rw [hKL]; rfl
        have K6 : KL.getD 6 kany = kval (.bool true) := by rw [hKL]; rfl
        have K7 : KL.getD 7 kany = kval (.string ⟨u.toArray⟩) := by rw [hKL]; rfl
        have K8 : KL.getD 8 kany = kstrs [u] := by rw [hKL]; rfl
        have K9 : KL.getD 9 kany = kval (.agg (cells8 (sumS u))) := by rw [hKL]; rfl
        have K10 : KL.getD 10 kany = kval (.string ⟨u.toArray⟩) := by rw [hKL]; rfl
        have K11 : KL.getD 11 kany = kval (.agg (cells8 (sumS u))) := by rw [hKL]; rfl
        have K12 : KL.getD 12 kany = kval (.bool true) := by rw [hKL]; rfl
        have K13 : KL.getD 13 kany = kval (.bool true) := by rw [hKL]; rfl
        have K14 : KL.getD 14 kany = kval (.bool true) := by rw [hKL]; rfl
        have K15 : KL.getD 15 kany = kval (.agg (cells8 k)) := by rw [hKL]; rfl
        have K16 : KL.getD 16 kany = kval (.string ⟨t.toArray⟩) := by rw [hKL]; rfl
        have K17 : KL.getD 17 kany = kstrs [t] := by rw [hKL]; rfl
        have K18 : KL.getD 18 kany = kval (.agg (cells8 (keyedS k t))) := by rw [hKL]; rfl
        have K19 : KL.getD 19 kany = kval (.agg (cells8 k)) := by rw [hKL]; rfl
        have K20 : KL.getD 20 kany = kval (.string ⟨t.toArray⟩) := by rw [hKL]; rfl
        have K21 : KL.getD 21 kany = kstrs [t] := by rw [hKL]; rfl
        have K22 : KL.getD 22 kany = kval (.agg (cells8 (keyedS k t))) := by rw [hKL]; rfl
        have K23 : KL.getD 23 kany = kval (.bool true) := by rw [hKL]; rfl
        have K24 : KL.getD 24 kany = kval (.bool true) := by rw [hKL]; rfl
        have K25 : KL.getD 25 kany = kval (.bool true) := by rw [hKL]; rfl
        have K26 : KL.getD 26 kany = kval (.agg (cells8 k)) := by rw [hKL]; rfl
        have K27 : KL.getD 27 kany = kval (.string ⟨u.toArray⟩) := by rw [hKL]; rfl
        have K28 : KL.getD 28 kany = kstrs [u] := by rw [hKL]; rfl
        have K29 : KL.getD 29 kany = kval (.agg (cells8 (keyedS k u))) := by rw [hKL]; rfl
        have K30 : KL.getD 30 kany = kval (.agg (cells8 k)) := by rw [hKL]; rfl
        have K31 : KL.getD 31 kany = kval (.string ⟨u.toArray⟩) := by rw [hKL]; rfl
        have K32 : KL.getD 32 kany = kstrs [u] := by rw [hKL]; rfl
        have K33 : KL.getD 33 kany = kval (.agg (cells8 (keyedS k u))) := by rw [hKL]; rfl
        have K34 : KL.getD 34 kany = kval (.bool true) := by rw [hKL]; rfl
        have K35 : KL.getD 35 kany = kval (.bool true) := by rw [hKL]; rfl
        have K36 : KL.getD 36 kany = kval (.bool true) := by rw [hKL]; rfl
        clear hKL
        refine wp_region_kd 74 (by kernel_rfl) (by kernel_rfl) (by kernel_rfl) rfl KL ?_ ?_
        · refine ⟨?_, ?_, ?_, ?_, ?_, ?_, ?_, ?_, ?_, ?_, ?_, ?_, ?_, ?_, ?_, ?_, ?_, ?_, ?_, ?_, ?_, ?_, ?_, ?_, ?_, ?_, ?_, ?_, ?_, ?_, ?_, ?_, ?_, ?_, ?_, ?_, ?_, trivial⟩
          · refine asks_mk fun a W hS hh hd => ⟨wanted_yes rfl, ?_⟩
            have e0 := hh 8 _ rfl rfl
            have E0 := eval_tmp e0
            exact giv_move rfl E0 K0
          · refine asks_mk fun a W hS hh hd => ⟨wanted_yes rfl, ?_⟩
            have e0 := hd.val (j := 0) (s := 38) (by kernel_rfl) K0
            have E0 := eval_tmp e0
            refine giv_strs [t] 9 ?_ K1
            go_simp
            rfl
          · refine asks_mk fun a W hS hh hd => ⟨wanted_yes rfl, ?_⟩
            obtain ⟨v0, e0, s0⟩ := hd.strs (j := 1) (s := 39) (by kernel_rfl) K1
            have E0 := eval_tmp e0
            refine giv_call (f := 10) (args := #[v0]) ?_ ?_ K2
            · go_simp
            · refine (show sumS ([t].flatten) = sumS t by simp) ▸ sum_any [t] _ W (HG2.out.below hS) s0 (by simp; omega) (by simp)
          · refine asks_mk fun a W hS hh hd => ⟨wanted_yes rfl, ?_⟩
            have e0 := hh 8 _ rfl rfl
            have E0 := eval_tmp e0
            exact giv_move rfl E0 K3
          · refine asks_mk fun a W hS hh hd => ⟨wanted_yes rfl, ?_⟩
            have e0 := hd.val (j := 3) (s := 41) (by kernel_rfl) K3
            have E0 := eval_tmp e0
            refine giv_call (f := 11) (args := #[(.string ⟨t.toArray⟩)]) ?_ ?_ K4
            · go_simp
            · exact one_any t W (by omega)
          · refine asks_mk fun a W hS hh hd => ⟨wanted_yes rfl, ?_⟩
            have e0 := hd.val (j := 2) (s := 40) (by kernel_rfl) K2
            have E0 := eval_tmp e0
            have e1 := hd.val (j := 4) (s := 42) (by kernel_rfl) K4
            have E1 := eval_tmp e1
            exact giv_eql 24 24 (.tmp 40) (.tmp 42) rfl E0 E1 (by kernel_rfl) (eqSame (sumS t) (sumS_len _)) K5
          · refine asks_mk fun a W hS hh hd => ⟨wanted_yes rfl, ?_⟩
            have e0 := hd.val (j := 5) (s := 43) (by kernel_rfl) K5
            have E0 := eval_tmp e0
            exact giv_move rfl E0 K6
          · refine asks_mk fun a W hS hh hd => ⟨wanted_of (j := 6) (s := 44) (by kernel_rfl) (hd.val (j := 6) (s := 44) (by kernel_rfl) K6), ?_⟩
            have e0 := hh 9 _ rfl rfl
            have E0 := eval_tmp e0
            exact giv_move rfl E0 K7
          · refine asks_mk fun a W hS hh hd => ⟨wanted_of (j := 6) (s := 44) (by kernel_rfl) (hd.val (j := 6) (s := 44) (by kernel_rfl) K6), ?_⟩
            have e0 := hd.val (j := 7) (s := 45) (by kernel_rfl) K7
            have E0 := eval_tmp e0
            refine giv_strs [u] 9 ?_ K8
            go_simp
            rfl
          · refine asks_mk fun a W hS hh hd => ⟨wanted_of (j := 6) (s := 44) (by kernel_rfl) (hd.val (j := 6) (s := 44) (by kernel_rfl) K6), ?_⟩
            obtain ⟨v0, e0, s0⟩ := hd.strs (j := 8) (s := 46) (by kernel_rfl) K8
            have E0 := eval_tmp e0
            refine giv_call (f := 10) (args := #[v0]) ?_ ?_ K9
            · go_simp
            · refine (show sumS ([u].flatten) = sumS u by simp) ▸ sum_any [u] _ W (HG2.out.below hS) s0 (by simp; omega) (by simp)
          · refine asks_mk fun a W hS hh hd => ⟨wanted_of (j := 6) (s := 44) (by kernel_rfl) (hd.val (j := 6) (s := 44) (by kernel_rfl) K6), ?_⟩
            have e0 := hh 9 _ rfl rfl
            have E0 := eval_tmp e0
            exact giv_move rfl E0 K10
          · refine asks_mk fun a W hS hh hd => ⟨wanted_of (j := 6) (s := 44) (by kernel_rfl) (hd.val (j := 6) (s := 44) (by kernel_rfl) K6), ?_⟩
            have e0 := hd.val (j := 10) (s := 48) (by kernel_rfl) K10
            have E0 := eval_tmp e0
            refine giv_call (f := 11) (args := #[(.string ⟨u.toArray⟩)]) ?_ ?_ K11
            · go_simp
            · exact one_any u W (by omega)
          · refine asks_mk fun a W hS hh hd => ⟨wanted_of (j := 6) (s := 44) (by kernel_rfl) (hd.val (j := 6) (s := 44) (by kernel_rfl) K6), ?_⟩
            have e0 := hd.val (j := 9) (s := 47) (by kernel_rfl) K9
            have E0 := eval_tmp e0
            have e1 := hd.val (j := 11) (s := 49) (by kernel_rfl) K11
            have E1 := eval_tmp e1
            exact giv_eql 24 24 (.tmp 47) (.tmp 49) rfl E0 E1 (by kernel_rfl) (eqSame (sumS u) (sumS_len _)) K12
          · refine asks_mk fun a W hS hh hd => ⟨wanted_yes rfl, ?_⟩
            have e0 := hd.val (j := 6) (s := 44) (by kernel_rfl) K6
            have E0 := eval_tmp e0
            have e1 := hd.val (j := 12) (s := 50) (by kernel_rfl) K12
            have E1 := eval_tmp e1
            refine giv_val (c := (.bool true)) ?_ K13 rfl
            go_simp
          · refine asks_mk fun a W hS hh hd => ⟨wanted_yes rfl, ?_⟩
            have e0 := hd.val (j := 13) (s := 51) (by kernel_rfl) K13
            have E0 := eval_tmp e0
            exact giv_move rfl E0 K14
          · refine asks_mk fun a W hS hh hd => ⟨wanted_of (j := 14) (s := 52) (by kernel_rfl) (hd.val (j := 14) (s := 52) (by kernel_rfl) K14), ?_⟩
            have e0 := hh 5 _ rfl rfl
            have E0 := eval_tmp e0
            exact giv_loadB hS 28 (.tmp 5) rfl w.heap.size E0 hB2 Tryd.underlying28 rfl sz32k HK8.out K15
          · refine asks_mk fun a W hS hh hd => ⟨wanted_of (j := 14) (s := 52) (by kernel_rfl) (hd.val (j := 14) (s := 52) (by kernel_rfl) K14), ?_⟩
            have e0 := hh 8 _ rfl rfl
            have E0 := eval_tmp e0
            exact giv_move rfl E0 K16
          · refine asks_mk fun a W hS hh hd => ⟨wanted_of (j := 14) (s := 52) (by kernel_rfl) (hd.val (j := 14) (s := 52) (by kernel_rfl) K14), ?_⟩
            have e0 := hd.val (j := 16) (s := 54) (by kernel_rfl) K16
            have E0 := eval_tmp e0
            refine giv_strs [t] 9 ?_ K17
            go_simp
            rfl
          · refine asks_mk fun a W hS hh hd => ⟨wanted_of (j := 14) (s := 52) (by kernel_rfl) (hd.val (j := 14) (s := 52) (by kernel_rfl) K14), ?_⟩
            have e0 := hd.val (j := 15) (s := 53) (by kernel_rfl) K15
            have E0 := eval_tmp e0
            obtain ⟨v1, e1, s1⟩ := hd.strs (j := 17) (s := 55) (by kernel_rfl) K17
            have E1 := eval_tmp e1
            refine giv_call (f := 12) (args := #[(.agg (cells8 k)), v1]) ?_ ?_ K18
            · go_simp
            · refine (show keyedS k ([t].flatten) = keyedS k t by simp) ▸ keyed_any k [t] _ W HK.out (HG2.out.below hS) s1 (by simp; omega) (by simp)
          · refine asks_mk fun a W hS hh hd => ⟨wanted_of (j := 14) (s := 52) (by kernel_rfl) (hd.val (j := 14) (s := 52) (by kernel_rfl) K14), ?_⟩
            have e0 := hh 5 _ rfl rfl
            have E0 := eval_tmp e0
            exact giv_loadB hS 28 (.tmp 5) rfl w.heap.size E0 hB2 Tryd.underlying28 rfl sz32k HK8.out K19
          · refine asks_mk fun a W hS hh hd => ⟨wanted_of (j := 14) (s := 52) (by kernel_rfl) (hd.val (j := 14) (s := 52) (by kernel_rfl) K14), ?_⟩
            have e0 := hh 8 _ rfl rfl
            have E0 := eval_tmp e0
            exact giv_move rfl E0 K20
          · refine asks_mk fun a W hS hh hd => ⟨wanted_of (j := 14) (s := 52) (by kernel_rfl) (hd.val (j := 14) (s := 52) (by kernel_rfl) K14), ?_⟩
            have e0 := hd.val (j := 20) (s := 58) (by kernel_rfl) K20
            have E0 := eval_tmp e0
            refine giv_strs [t] 9 ?_ K21
            go_simp
            rfl
          · refine asks_mk fun a W hS hh hd => ⟨wanted_of (j := 14) (s := 52) (by kernel_rfl) (hd.val (j := 14) (s := 52) (by kernel_rfl) K14), ?_⟩
            have e0 := hd.val (j := 19) (s := 57) (by kernel_rfl) K19
            have E0 := eval_tmp e0
            obtain ⟨v1, e1, s1⟩ := hd.strs (j := 21) (s := 59) (by kernel_rfl) K21
            have E1 := eval_tmp e1
            refine giv_call (f := 13) (args := #[(.agg (cells8 k)), v1]) ?_ ?_ K22
            · go_simp
            · refine (show keyedS k ([t].flatten) = keyedS k t by simp) ▸ rkeyed_any k [t] _ W HK.out s1 (by simp; omega) (by simp)
          · refine asks_mk fun a W hS hh hd => ⟨wanted_of (j := 14) (s := 52) (by kernel_rfl) (hd.val (j := 14) (s := 52) (by kernel_rfl) K14), ?_⟩
            have e0 := hd.val (j := 18) (s := 56) (by kernel_rfl) K18
            have E0 := eval_tmp e0
            have e1 := hd.val (j := 22) (s := 60) (by kernel_rfl) K22
            have E1 := eval_tmp e1
            exact giv_eql 24 24 (.tmp 56) (.tmp 60) rfl E0 E1 (by kernel_rfl) (eqSame (keyedS k t) (keyedS_len _ _)) K23
          · refine asks_mk fun a W hS hh hd => ⟨wanted_yes rfl, ?_⟩
            have e0 := hd.val (j := 14) (s := 52) (by kernel_rfl) K14
            have E0 := eval_tmp e0
            have e1 := hd.val (j := 23) (s := 61) (by kernel_rfl) K23
            have E1 := eval_tmp e1
            refine giv_val (c := (.bool true)) ?_ K24 rfl
            go_simp
          · refine asks_mk fun a W hS hh hd => ⟨wanted_yes rfl, ?_⟩
            have e0 := hd.val (j := 24) (s := 62) (by kernel_rfl) K24
            have E0 := eval_tmp e0
            exact giv_move rfl E0 K25
          · refine asks_mk fun a W hS hh hd => ⟨wanted_of (j := 25) (s := 63) (by kernel_rfl) (hd.val (j := 25) (s := 63) (by kernel_rfl) K25), ?_⟩
            have e0 := hh 5 _ rfl rfl
            have E0 := eval_tmp e0
            exact giv_loadB hS 28 (.tmp 5) rfl w.heap.size E0 hB2 Tryd.underlying28 rfl sz32k HK8.out K26
          · refine asks_mk fun a W hS hh hd => ⟨wanted_of (j := 25) (s := 63) (by kernel_rfl) (hd.val (j := 25) (s := 63) (by kernel_rfl) K25), ?_⟩
            have e0 := hh 9 _ rfl rfl
            have E0 := eval_tmp e0
            exact giv_move rfl E0 K27
          · refine asks_mk fun a W hS hh hd => ⟨wanted_of (j := 25) (s := 63) (by kernel_rfl) (hd.val (j := 25) (s := 63) (by kernel_rfl) K25), ?_⟩
            have e0 := hd.val (j := 27) (s := 65) (by kernel_rfl) K27
            have E0 := eval_tmp e0
            refine giv_strs [u] 9 ?_ K28
            go_simp
            rfl
          · refine asks_mk fun a W hS hh hd => ⟨wanted_of (j := 25) (s := 63) (by kernel_rfl) (hd.val (j := 25) (s := 63) (by kernel_rfl) K25), ?_⟩
            have e0 := hd.val (j := 26) (s := 64) (by kernel_rfl) K26
            have E0 := eval_tmp e0
            obtain ⟨v1, e1, s1⟩ := hd.strs (j := 28) (s := 66) (by kernel_rfl) K28
            have E1 := eval_tmp e1
            refine giv_call (f := 12) (args := #[(.agg (cells8 k)), v1]) ?_ ?_ K29
            · go_simp
            · refine (show keyedS k ([u].flatten) = keyedS k u by simp) ▸ keyed_any k [u] _ W HK.out (HG2.out.below hS) s1 (by simp; omega) (by simp)
          · refine asks_mk fun a W hS hh hd => ⟨wanted_of (j := 25) (s := 63) (by kernel_rfl) (hd.val (j := 25) (s := 63) (by kernel_rfl) K25), ?_⟩
            have e0 := hh 5 _ rfl rfl
            have E0 := eval_tmp e0
            exact giv_loadB hS 28 (.tmp 5) rfl w.heap.size E0 hB2 Tryd.underlying28 rfl sz32k HK8.out K30
          · refine asks_mk fun a W hS hh hd => ⟨wanted_of (j := 25) (s := 63) (by kernel_rfl) (hd.val (j := 25) (s := 63) (by kernel_rfl) K25), ?_⟩
            have e0 := hh 9 _ rfl rfl
            have E0 := eval_tmp e0
            exact giv_move rfl E0 K31
          · refine asks_mk fun a W hS hh hd => ⟨wanted_of (j := 25) (s := 63) (by kernel_rfl) (hd.val (j := 25) (s := 63) (by kernel_rfl) K25), ?_⟩
            have e0 := hd.val (j := 31) (s := 69) (by kernel_rfl) K31
            have E0 := eval_tmp e0
            refine giv_strs [u] 9 ?_ K32
            go_simp
            rfl
          · refine asks_mk fun a W hS hh hd => ⟨wanted_of (j := 25) (s := 63) (by kernel_rfl) (hd.val (j := 25) (s := 63) (by kernel_rfl) K25), ?_⟩
            have e0 := hd.val (j := 30) (s := 68) (by kernel_rfl) K30
            have E0 := eval_tmp e0
            obtain ⟨v1, e1, s1⟩ := hd.strs (j := 32) (s := 70) (by kernel_rfl) K32
            have E1 := eval_tmp e1
            refine giv_call (f := 13) (args := #[(.agg (cells8 k)), v1]) ?_ ?_ K33
            · go_simp
            · refine (show keyedS k ([u].flatten) = keyedS k u by simp) ▸ rkeyed_any k [u] _ W HK.out s1 (by simp; omega) (by simp)
          · refine asks_mk fun a W hS hh hd => ⟨wanted_of (j := 25) (s := 63) (by kernel_rfl) (hd.val (j := 25) (s := 63) (by kernel_rfl) K25), ?_⟩
            have e0 := hd.val (j := 29) (s := 67) (by kernel_rfl) K29
            have E0 := eval_tmp e0
            have e1 := hd.val (j := 33) (s := 71) (by kernel_rfl) K33
            have E1 := eval_tmp e1
            exact giv_eql 24 24 (.tmp 67) (.tmp 71) rfl E0 E1 (by kernel_rfl) (eqSame (keyedS k u) (keyedS_len _ _)) K34
          · refine asks_mk fun a W hS hh hd => ⟨wanted_yes rfl, ?_⟩
            have e0 := hd.val (j := 25) (s := 63) (by kernel_rfl) K25
            have E0 := eval_tmp e0
            have e1 := hd.val (j := 34) (s := 72) (by kernel_rfl) K34
            have E1 := eval_tmp e1
            refine giv_val (c := (.bool true)) ?_ K35 rfl
            go_simp
          · refine asks_mk fun a W hS hh hd => ⟨wanted_yes rfl, ?_⟩
            have e0 := hd.val (j := 35) (s := 73) (by kernel_rfl) K35
            have E0 := eval_tmp e0
            exact giv_assign rfl E0 K36
        · intro a W hS hK
          have e6 := hK.val (i := 36) (s := 6) (by kernel_rfl) K36
          have hdf := hK.defers
          clear K0 K1 K2 K3 K4 K5 K6 K7 K8 K9 K10 K11 K12 K13 K14 K15 K16 K17 K18 K19 K20 K21 K22 K23 K24 K25 K26 K27 K28 K29 K30 K31 K32 K33 K34 K35 K36 hK
          go_wp2
          exact bodyPost_ret (results_tmp rfl a.tmps _ W) hdf ⟨by simp [e6], hb1.trans (hS.mono hb1.size)⟩
end Go.Proofs.YthimejahpgihkaaDoor
