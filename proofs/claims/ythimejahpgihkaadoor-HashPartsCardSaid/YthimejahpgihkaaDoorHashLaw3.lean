/- The walk of the law HashParts. Printed by gen_hlaw3.py. -/
import Derived.Test.YthimejahpgihkaaDoorHashLaw1
import Derived.Test.YthimejahpgihkaaDoorLong
import Derived.Test.YthimejahpgihkaaDoorAsk
namespace Go.Proofs.YthimejahpgihkaaDoor
open Go.RowKit

attribute [local go_sem] str_app
set_option maxRecDepth 100000 in
set_option maxHeartbeats 2000000 in
theorem lawParts_any (k : List UInt8) (l : List (List UInt8)) (v : Value) (at_ : Nat) (w : World) (hG : Glob w) (hk : k.length = 32) (hl : Strs w v l ∧ l.length ≤ maxLen) (hat : at_ < 65536) :
    Calls Tryd.prog 5 #[.agg (cells8 k), v, .int .u16 (at_ : Int)] w fun e w' => e = .returned (.bool true) ∧ Below w.heap.size w w' := by
  have HG := Lib.hid hG
  have HK := Lib.hid hk
  have HS0 := Lib.hid hl.1
  have hn := hl.2
  have HNM := Lib.hid hl.2
  clear hG hk hl
  unfold maxLen at hn
  have HK8 : Hid ((cells8 k).size = 32) := Lib.hid (by rw [cells8_size]; exact HK.out)
  obtain ⟨a, c, rfl⟩ := HS0.out.len
  go_enter Tryd.func5, Tryd.ntmps5
  go_wp2_with fail
  refine (alive_any _ (HG.out.alloc _)).mono ?_
  rintro e w1 ⟨rfl, hb⟩
  have hB2 : Blk w1 w.heap.size 28 (cells8 k) := (Blk.new w 28 (cells8 k)).below hb (by simp)
  have hb1 : Below w.heap.size w w1 := ((Below.refl _ _).alloc (Nat.le_refl _) _).trans (hb.mono (by simp))
  have HG2 := Lib.hid (HG.out.below hb1)
  have HSv := Lib.hid (HS0.out.below hb1)
  clear hb
  go_wp2_with fail
  refine (long_any l _ _ HSv.out HNM.out).mono ?_
  rintro e w2 ⟨b, rfl, rfl, hlong⟩
  cases b
  · obtain ⟨h30, h700⟩ := hlong rfl
    clear hlong
    go_wp2_with fail
    go_loop [7, 8] (fun t i => ∃ j : Nat, j ≤ l.length ∧ i = .int .i64 j ∧ t = .string ⟨(joinTo l j).toArray⟩) (fun _ i => l.length - (intOf i).toNat)
    case atStart => exact ⟨0, by omega, rfl, rfl⟩
    case round =>
      obtain ⟨j, hj0, rfl, rfl⟩ := hrel
      by_cases hlt : j < l.length
      · have hlt' : (j : Int) < l.length := by omega
        rcases HSv.out with ⟨_, h2⟩ | ⟨b, o, c', h1, h2, h3⟩
        · subst h2; simp at hlt
        · injection h1 with h1a _ h1c
          subst h1a h1c
          have hc := h3 j hlt
          clear h3
          have hj := joinTo_le l j
          have hj2 := joinTo_le l (j + 1)
          have HJ := Lib.hid (joinTo_succ l j hlt)
          rw [← HJ.out, List.length_append] at hj2
          generalize l.getD j [] = s at *
          unfold tx at hc
          generalize joinTo l j = p at *
          go_wp2
          go_round
          case rel => exact ⟨j + 1, by omega, by go_num, by rw [← HJ.out]⟩
          case measure => simp [intOf]; omega
      · obtain rfl : j = l.length := by omega
        rw [joinTo_all]
        obtain ⟨F, hF⟩ : ∃ F, l.flatten = F := ⟨_, rfl⟩
        rw [hF] at h700 ⊢
        have HFL := Lib.hid hF
        clear hF
        go_upto_region 11 with (fail)
        clear hn
        obtain ⟨n, hn⟩ : ∃ n, n = at_ % (F.length + 1) := ⟨_, rfl⟩
        have hnl : n ≤ F.length := by have := Nat.mod_lt at_ (show 0 < F.length + 1 by omega); omega
        have en : (at_ : Int) % ((F.length : Int) + 1) = (n : Int) := by rw [hn, Int.natCast_emod]; rfl
        rw [en]
        clear en hn
        obtain ⟨x1, hx1⟩ : ∃ x1, x1 = F.take n := ⟨_, rfl⟩
        obtain ⟨x2, hx2⟩ : ∃ x2, x2 = F.drop n := ⟨_, rfl⟩
        have ex1 : (⟨F.toArray⟩ : ByteArray).extract 0 n = ⟨x1.toArray⟩ := by rw [str_mid, hx1]; simp
        have ex2 : (⟨F.toArray⟩ : ByteArray).extract n F.length = ⟨x2.toArray⟩ := by rw [str_drop, hx2]
        have HF1 : Hid ([F].flatten = F) := Lib.hid (by simp)
        have HF2 : Hid ([x1, x2].flatten = F) := Lib.hid (by rw [hx1, hx2]; simp)
        have HF3 : Hid ([x1, [], x2].flatten = F) := Lib.hid (by rw [hx1, hx2]; simp)
        clear hx1 hx2
        have hni : (n : Int) ≤ (F.length : Int) := by omega
        have hv : ∃ v, v = Value.slice a l.length c := ⟨_, rfl⟩
        obtain ⟨v, hv⟩ := hv
        rw [← hv] at HSv ⊢
        clear hv HS0
        obtain ⟨KL, hKL⟩ : ∃ KL, KL = [kval v, kval (.agg (cells8 (sumS F))), kval (.string ⟨F.toArray⟩), kstrs [F], kval (.agg (cells8 (sumS F))), kval (.bool true), kval (.bool true), kval (.agg (cells8 k)), kval v, kval (.agg (cells8 (keyedS k F))), kval (.agg (cells8 k)), kval (.string ⟨F.toArray⟩), kstrs [F], kval (.agg (cells8 (keyedS k F))), kval (.bool true), kval (.bool true), kval (.bool true), kval (.string ⟨F.toArray⟩), kval (.int .i64 (n : Int)), kval (.string ⟨x1.toArray⟩), kval (.string ⟨F.toArray⟩), kval (.int .i64 (n : Int)), kval (.string ⟨x2.toArray⟩), kstrs [x1, x2], kval (.agg (cells8 (sumS F))), kval (.string ⟨F.toArray⟩), kstrs [F], kval (.agg (cells8 (sumS F))), kval (.bool true), kval (.bool true), kval (.bool true), kval (.agg (cells8 k)), kval (.string ⟨F.toArray⟩), kval (.int .i64 (n : Int)), kval (.string ⟨x1.toArray⟩), kval (.string ⟨F.toArray⟩), kval (.int .i64 (n : Int)), kval (.string ⟨x2.toArray⟩), kstrs [x1, [], x2], kval (.agg (cells8 (keyedS k F))), kval (.agg (cells8 k)), kval (.string ⟨F.toArray⟩), kstrs [F], kval (.agg (cells8 (keyedS k F))), kval (.bool true), kval (.bool true), kval (.bool true)] := ⟨_, rfl⟩
        have K0 : KL.getD 0 kany = kval v := by rw [hKL]; rfl
        have K1 : KL.getD 1 kany = kval (.agg (cells8 (sumS F))) := by rw [hKL]; rfl
        have K2 : KL.getD 2 kany = kval (.string ⟨F.toArray⟩) := by rw [hKL]; rfl
        have K3 : KL.getD 3 kany = kstrs [F] := by rw [hKL]; rfl
        have K4 : KL.getD 4 kany = kval (.agg (cells8 (sumS F))) := by rw [hKL]; rfl
        have K5 : KL.getD 5 kany = kval (.bool true) := by rw [hKL]; rfl
        have K6 : KL.getD 6 kany = kval (.bool true) := by rw [hKL]; rfl
        have K7 : KL.getD 7 kany = kval (.agg (cells8 k)) := by rw [hKL]; rfl
        have K8 : KL.getD 8 kany = kval v := by rw [hKL]; rfl
        have K9 : KL.getD 9 kany = kval (.agg (cells8 (keyedS k F))) := by rw [hKL]; rfl
        have K10 : KL.getD 10 kany = kval (.agg (cells8 k)) := by rw [hKL]; rfl
        have K11 : KL.getD 11 kany = kval (.string ⟨F.toArray⟩) := by rw [hKL]; rfl
        have K12 : KL.getD 12 kany = kstrs [F] := by rw [hKL]; rfl
        have K13 : KL.getD 13 kany = kval (.agg (cells8 (keyedS k F))) := by rw [hKL]; rfl
        have K14 : KL.getD 14 kany = kval (.bool true) := by rw [hKL]; rfl
        have K15 : KL.getD 15 kany = kval (.bool true) := by rw [hKL]; rfl
        have K16 : KL.getD 16 kany = kval (.bool true) := by rw [hKL]; rfl
        have K17 : KL.getD 17 kany = kval (.string ⟨F.toArray⟩) := by rw [hKL]; rfl
        have K18 : KL.getD 18 kany = kval (.int .i64 (n : Int)) := by rw [hKL]; rfl
        have K19 : KL.getD 19 kany = kval (.string ⟨x1.toArray⟩) := by rw [hKL]; rfl
        have K20 : KL.getD 20 kany = kval (.string ⟨F.toArray⟩) := by rw [hKL]; rfl
        have K21 : KL.getD 21 kany = kval (.int .i64 (n : Int)) := by rw [hKL]; rfl
        have K22 : KL.getD 22 kany = kval (.string ⟨x2.toArray⟩) := by rw [hKL]; rfl
        have K23 : KL.getD 23 kany = kstrs [x1, x2] := by rw [hKL]; rfl
        have K24 : KL.getD 24 kany = kval (.agg (cells8 (sumS F))) := by rw [hKL]; rfl
        have K25 : KL.getD 25 kany = kval (.string ⟨F.toArray⟩) := by rw [hKL]; rfl
        have K26 : KL.getD 26 kany = kstrs [F] := by rw [hKL]; rfl
        have K27 : KL.getD 27 kany = kval (.agg (cells8 (sumS F))) := by rw [hKL]; rfl
        have K28 : KL.getD 28 kany = kval (.bool true) := by rw [hKL]; rfl
        have K29 : KL.getD 29 kany = kval (.bool true) := by rw [hKL]; rfl
        have K30 : KL.getD 30 kany = kval (.bool true) := by rw [hKL]; rfl
        have K31 : KL.getD 31 kany = kval (.agg (cells8 k)) := by rw [hKL]; rfl
        have K32 : KL.getD 32 kany = kval (.string ⟨F.toArray⟩) := by rw [hKL]; rfl
        have K33 : KL.getD 33 kany = kval (.int .i64 (n : Int)) := by rw [hKL]; rfl
        have K34 : KL.getD 34 kany = kval (.string ⟨x1.toArray⟩) := by rw [hKL]; rfl
        have K35 : KL.getD 35 kany = kval (.string ⟨F.toArray⟩) := by rw [hKL]; rfl
        have K36 : KL.getD 36 kany = kval (.int .i64 (n : Int)) := by rw [hKL]; rfl
        have K37 : KL.getD 37 kany = kval (.string ⟨x2.toArray⟩) := by rw [hKL]; rfl
        have K38 : KL.getD 38 kany = kstrs [x1, [], x2] := by rw [hKL]; rfl
        have K39 : KL.getD 39 kany = kval (.agg (cells8 (keyedS k F))) := by rw [hKL]; rfl
        have K40 : KL.getD 40 kany = kval (.agg (cells8 k)) := by rw [hKL]; rfl
        have K41 : KL.getD 41 kany = kval (.string ⟨F.toArray⟩) := by rw [hKL]; rfl
        have K42 : KL.getD 42 kany = kstrs [F] := by rw [hKL]; rfl
        have K43 : KL.getD 43 kany = kval (.agg (cells8 (keyedS k F))) := by rw [hKL]; rfl
        have K44 : KL.getD 44 kany = kval (.bool true) := by rw [hKL]; rfl
        have K45 : KL.getD 45 kany = kval (.bool true) := by rw [hKL]; rfl
        have K46 : KL.getD 46 kany = kval (.bool true) := by rw [hKL]; rfl
        clear hKL
        refine wp_region_kd 78 (by kernel_rfl) (by kernel_rfl) (by kernel_rfl) rfl KL ?_ ?_
        · refine ⟨?_, ?_, ?_, ?_, ?_, ?_, ?_, ?_, ?_, ?_, ?_, ?_, ?_, ?_, ?_, ?_, ?_, ?_, ?_, ?_, ?_, ?_, ?_, ?_, ?_, ?_, ?_, ?_, ?_, ?_, ?_, ?_, ?_, ?_, ?_, ?_, ?_, ?_, ?_, ?_, ?_, ?_, ?_, ?_, ?_, ?_, ?_, trivial⟩
          · refine asks_mk fun a W hS hh hd => ⟨wanted_yes rfl, ?_⟩
            have e0 := hh 1 _ rfl rfl
            have E0 := eval_tmp e0
            exact giv_move rfl E0 K0
          · refine asks_mk fun a W hS hh hd => ⟨wanted_yes rfl, ?_⟩
            have e0 := hd.val (j := 0) (s := 32) (by kernel_rfl) K0
            have E0 := eval_tmp e0
            refine giv_call (f := 10) (args := #[v]) ?_ ?_ K1
            · go_simp
            · exact HFL.out ▸ sum_any l _ W (HG2.out.below hS) (HSv.out.below hS) (by rw [HFL.out]; omega) (by simp; omega)
          · refine asks_mk fun a W hS hh hd => ⟨wanted_yes rfl, ?_⟩
            have e0 := hh 7 _ rfl rfl
            have E0 := eval_tmp e0
            exact giv_move rfl E0 K2
          · refine asks_mk fun a W hS hh hd => ⟨wanted_yes rfl, ?_⟩
            have e0 := hd.val (j := 2) (s := 34) (by kernel_rfl) K2
            have E0 := eval_tmp e0
            refine giv_strs [F] 9 ?_ K3
            go_simp
            rfl
          · refine asks_mk fun a W hS hh hd => ⟨wanted_yes rfl, ?_⟩
            obtain ⟨v0, e0, s0⟩ := hd.strs (j := 3) (s := 35) (by kernel_rfl) K3
            have E0 := eval_tmp e0
            refine giv_call (f := 10) (args := #[v0]) ?_ ?_ K4
            · go_simp
            · exact HF1.out ▸ sum_any [F] _ W (HG2.out.below hS) s0 (by rw [HF1.out]; omega) (by simp)
          · refine asks_mk fun a W hS hh hd => ⟨wanted_yes rfl, ?_⟩
            have e0 := hd.val (j := 1) (s := 33) (by kernel_rfl) K1
            have E0 := eval_tmp e0
            have e1 := hd.val (j := 4) (s := 36) (by kernel_rfl) K4
            have E1 := eval_tmp e1
            exact giv_eql 24 24 (.tmp 33) (.tmp 36) rfl E0 E1 (by kernel_rfl) (eqSame (sumS F) (sumS_len _)) K5
          · refine asks_mk fun a W hS hh hd => ⟨wanted_yes rfl, ?_⟩
            have e0 := hd.val (j := 5) (s := 37) (by kernel_rfl) K5
            have E0 := eval_tmp e0
            exact giv_move rfl E0 K6
          · refine asks_mk fun a W hS hh hd => ⟨wanted_of (j := 6) (s := 38) (by kernel_rfl) (hd.val (j := 6) (s := 38) (by kernel_rfl) K6), ?_⟩
            have e0 := hh 3 _ rfl rfl
            have E0 := eval_tmp e0
            exact giv_loadB hS 28 (.tmp 3) rfl w.heap.size E0 hB2 Tryd.underlying28 rfl sz32k HK8.out K7
          · refine asks_mk fun a W hS hh hd => ⟨wanted_of (j := 6) (s := 38) (by kernel_rfl) (hd.val (j := 6) (s := 38) (by kernel_rfl) K6), ?_⟩
            have e0 := hh 1 _ rfl rfl
            have E0 := eval_tmp e0
            exact giv_move rfl E0 K8
          · refine asks_mk fun a W hS hh hd => ⟨wanted_of (j := 6) (s := 38) (by kernel_rfl) (hd.val (j := 6) (s := 38) (by kernel_rfl) K6), ?_⟩
            have e0 := hd.val (j := 7) (s := 39) (by kernel_rfl) K7
            have E0 := eval_tmp e0
            have e1 := hd.val (j := 8) (s := 40) (by kernel_rfl) K8
            have E1 := eval_tmp e1
            refine giv_call (f := 12) (args := #[(.agg (cells8 k)), v]) ?_ ?_ K9
            · go_simp
            · exact HFL.out ▸ keyed_any k l _ W HK.out (HG2.out.below hS) (HSv.out.below hS) (by rw [HFL.out]; omega) (by simp; omega)
          · refine asks_mk fun a W hS hh hd => ⟨wanted_of (j := 6) (s := 38) (by kernel_rfl) (hd.val (j := 6) (s := 38) (by kernel_rfl) K6), ?_⟩
            have e0 := hh 3 _ rfl rfl
            have E0 := eval_tmp e0
            exact giv_loadB hS 28 (.tmp 3) rfl w.heap.size E0 hB2 Tryd.underlying28 rfl sz32k HK8.out K10
          · refine asks_mk fun a W hS hh hd => ⟨wanted_of (j := 6) (s := 38) (by kernel_rfl) (hd.val (j := 6) (s := 38) (by kernel_rfl) K6), ?_⟩
            have e0 := hh 7 _ rfl rfl
            have E0 := eval_tmp e0
            exact giv_move rfl E0 K11
          · refine asks_mk fun a W hS hh hd => ⟨wanted_of (j := 6) (s := 38) (by kernel_rfl) (hd.val (j := 6) (s := 38) (by kernel_rfl) K6), ?_⟩
            have e0 := hd.val (j := 11) (s := 43) (by kernel_rfl) K11
            have E0 := eval_tmp e0
            refine giv_strs [F] 9 ?_ K12
            go_simp
            rfl
          · refine asks_mk fun a W hS hh hd => ⟨wanted_of (j := 6) (s := 38) (by kernel_rfl) (hd.val (j := 6) (s := 38) (by kernel_rfl) K6), ?_⟩
            have e0 := hd.val (j := 10) (s := 42) (by kernel_rfl) K10
            have E0 := eval_tmp e0
            obtain ⟨v1, e1, s1⟩ := hd.strs (j := 12) (s := 44) (by kernel_rfl) K12
            have E1 := eval_tmp e1
            refine giv_call (f := 12) (args := #[(.agg (cells8 k)), v1]) ?_ ?_ K13
            · go_simp
            · exact HF1.out ▸ keyed_any k [F] _ W HK.out (HG2.out.below hS) s1 (by rw [HF1.out]; omega) (by simp)
          · refine asks_mk fun a W hS hh hd => ⟨wanted_of (j := 6) (s := 38) (by kernel_rfl) (hd.val (j := 6) (s := 38) (by kernel_rfl) K6), ?_⟩
            have e0 := hd.val (j := 9) (s := 41) (by kernel_rfl) K9
            have E0 := eval_tmp e0
            have e1 := hd.val (j := 13) (s := 45) (by kernel_rfl) K13
            have E1 := eval_tmp e1
            exact giv_eql 24 24 (.tmp 41) (.tmp 45) rfl E0 E1 (by kernel_rfl) (eqSame (keyedS k F) (keyedS_len _ _)) K14
          · refine asks_mk fun a W hS hh hd => ⟨wanted_yes rfl, ?_⟩
            have e0 := hd.val (j := 6) (s := 38) (by kernel_rfl) K6
            have E0 := eval_tmp e0
            have e1 := hd.val (j := 14) (s := 46) (by kernel_rfl) K14
            have E1 := eval_tmp e1
            refine giv_val (c := (.bool true)) ?_ K15 rfl
            go_simp
          · refine asks_mk fun a W hS hh hd => ⟨wanted_yes rfl, ?_⟩
            have e0 := hd.val (j := 15) (s := 47) (by kernel_rfl) K15
            have E0 := eval_tmp e0
            exact giv_move rfl E0 K16
          · refine asks_mk fun a W hS hh hd => ⟨wanted_of (j := 16) (s := 48) (by kernel_rfl) (hd.val (j := 16) (s := 48) (by kernel_rfl) K16), ?_⟩
            have e0 := hh 7 _ rfl rfl
            have E0 := eval_tmp e0
            exact giv_move rfl E0 K17
          · refine asks_mk fun a W hS hh hd => ⟨wanted_of (j := 16) (s := 48) (by kernel_rfl) (hd.val (j := 16) (s := 48) (by kernel_rfl) K16), ?_⟩
            have e0 := hh 9 _ rfl rfl
            have E0 := eval_tmp e0
            exact giv_move rfl E0 K18
          · refine asks_mk fun a W hS hh hd => ⟨wanted_of (j := 16) (s := 48) (by kernel_rfl) (hd.val (j := 16) (s := 48) (by kernel_rfl) K16), ?_⟩
            have e0 := hd.val (j := 17) (s := 49) (by kernel_rfl) K17
            have E0 := eval_tmp e0
            have e1 := hd.val (j := 18) (s := 50) (by kernel_rfl) K18
            have E1 := eval_tmp e1
            refine giv_val (c := (.string ⟨x1.toArray⟩)) ?_ K19 rfl
            go_simp
          · refine asks_mk fun a W hS hh hd => ⟨wanted_of (j := 16) (s := 48) (by kernel_rfl) (hd.val (j := 16) (s := 48) (by kernel_rfl) K16), ?_⟩
            have e0 := hh 7 _ rfl rfl
            have E0 := eval_tmp e0
            exact giv_move rfl E0 K20
          · refine asks_mk fun a W hS hh hd => ⟨wanted_of (j := 16) (s := 48) (by kernel_rfl) (hd.val (j := 16) (s := 48) (by kernel_rfl) K16), ?_⟩
            have e0 := hh 9 _ rfl rfl
            have E0 := eval_tmp e0
            exact giv_move rfl E0 K21
          · refine asks_mk fun a W hS hh hd => ⟨wanted_of (j := 16) (s := 48) (by kernel_rfl) (hd.val (j := 16) (s := 48) (by kernel_rfl) K16), ?_⟩
            have e0 := hd.val (j := 20) (s := 52) (by kernel_rfl) K20
            have E0 := eval_tmp e0
            have e1 := hd.val (j := 21) (s := 53) (by kernel_rfl) K21
            have E1 := eval_tmp e1
            refine giv_val (c := (.string ⟨x2.toArray⟩)) ?_ K22 rfl
            go_simp
          · refine asks_mk fun a W hS hh hd => ⟨wanted_of (j := 16) (s := 48) (by kernel_rfl) (hd.val (j := 16) (s := 48) (by kernel_rfl) K16), ?_⟩
            have e0 := hd.val (j := 19) (s := 51) (by kernel_rfl) K19
            have E0 := eval_tmp e0
            have e1 := hd.val (j := 22) (s := 54) (by kernel_rfl) K22
            have E1 := eval_tmp e1
            refine giv_strs [x1, x2] 9 ?_ K23
            go_simp
            rfl
          · refine asks_mk fun a W hS hh hd => ⟨wanted_of (j := 16) (s := 48) (by kernel_rfl) (hd.val (j := 16) (s := 48) (by kernel_rfl) K16), ?_⟩
            obtain ⟨v0, e0, s0⟩ := hd.strs (j := 23) (s := 55) (by kernel_rfl) K23
            have E0 := eval_tmp e0
            refine giv_call (f := 10) (args := #[v0]) ?_ ?_ K24
            · go_simp
            · exact HF2.out ▸ sum_any [x1, x2] _ W (HG2.out.below hS) s0 (by rw [HF2.out]; omega) (by simp)
          · refine asks_mk fun a W hS hh hd => ⟨wanted_of (j := 16) (s := 48) (by kernel_rfl) (hd.val (j := 16) (s := 48) (by kernel_rfl) K16), ?_⟩
            have e0 := hh 7 _ rfl rfl
            have E0 := eval_tmp e0
            exact giv_move rfl E0 K25
          · refine asks_mk fun a W hS hh hd => ⟨wanted_of (j := 16) (s := 48) (by kernel_rfl) (hd.val (j := 16) (s := 48) (by kernel_rfl) K16), ?_⟩
            have e0 := hd.val (j := 25) (s := 57) (by kernel_rfl) K25
            have E0 := eval_tmp e0
            refine giv_strs [F] 9 ?_ K26
            go_simp
            rfl
          · refine asks_mk fun a W hS hh hd => ⟨wanted_of (j := 16) (s := 48) (by kernel_rfl) (hd.val (j := 16) (s := 48) (by kernel_rfl) K16), ?_⟩
            obtain ⟨v0, e0, s0⟩ := hd.strs (j := 26) (s := 58) (by kernel_rfl) K26
            have E0 := eval_tmp e0
            refine giv_call (f := 10) (args := #[v0]) ?_ ?_ K27
            · go_simp
            · exact HF1.out ▸ sum_any [F] _ W (HG2.out.below hS) s0 (by rw [HF1.out]; omega) (by simp)
          · refine asks_mk fun a W hS hh hd => ⟨wanted_of (j := 16) (s := 48) (by kernel_rfl) (hd.val (j := 16) (s := 48) (by kernel_rfl) K16), ?_⟩
            have e0 := hd.val (j := 24) (s := 56) (by kernel_rfl) K24
            have E0 := eval_tmp e0
            have e1 := hd.val (j := 27) (s := 59) (by kernel_rfl) K27
            have E1 := eval_tmp e1
            exact giv_eql 24 24 (.tmp 56) (.tmp 59) rfl E0 E1 (by kernel_rfl) (eqSame (sumS F) (sumS_len _)) K28
          · refine asks_mk fun a W hS hh hd => ⟨wanted_yes rfl, ?_⟩
            have e0 := hd.val (j := 16) (s := 48) (by kernel_rfl) K16
            have E0 := eval_tmp e0
            have e1 := hd.val (j := 28) (s := 60) (by kernel_rfl) K28
            have E1 := eval_tmp e1
            refine giv_val (c := (.bool true)) ?_ K29 rfl
            go_simp
          · refine asks_mk fun a W hS hh hd => ⟨wanted_yes rfl, ?_⟩
            have e0 := hd.val (j := 29) (s := 61) (by kernel_rfl) K29
            have E0 := eval_tmp e0
            exact giv_move rfl E0 K30
          · refine asks_mk fun a W hS hh hd => ⟨wanted_of (j := 30) (s := 62) (by kernel_rfl) (hd.val (j := 30) (s := 62) (by kernel_rfl) K30), ?_⟩
            have e0 := hh 3 _ rfl rfl
            have E0 := eval_tmp e0
            exact giv_loadB hS 28 (.tmp 3) rfl w.heap.size E0 hB2 Tryd.underlying28 rfl sz32k HK8.out K31
          · refine asks_mk fun a W hS hh hd => ⟨wanted_of (j := 30) (s := 62) (by kernel_rfl) (hd.val (j := 30) (s := 62) (by kernel_rfl) K30), ?_⟩
            have e0 := hh 7 _ rfl rfl
            have E0 := eval_tmp e0
            exact giv_move rfl E0 K32
          · refine asks_mk fun a W hS hh hd => ⟨wanted_of (j := 30) (s := 62) (by kernel_rfl) (hd.val (j := 30) (s := 62) (by kernel_rfl) K30), ?_⟩
            have e0 := hh 9 _ rfl rfl
            have E0 := eval_tmp e0
            exact giv_move rfl E0 K33
          · refine asks_mk fun a W hS hh hd => ⟨wanted_of (j := 30) (s := 62) (by kernel_rfl) (hd.val (j := 30) (s := 62) (by kernel_rfl) K30), ?_⟩
            have e0 := hd.val (j := 32) (s := 64) (by kernel_rfl) K32
            have E0 := eval_tmp e0
            have e1 := hd.val (j := 33) (s := 65) (by kernel_rfl) K33
            have E1 := eval_tmp e1
            refine giv_val (c := (.string ⟨x1.toArray⟩)) ?_ K34 rfl
            go_simp
          · refine asks_mk fun a W hS hh hd => ⟨wanted_of (j := 30) (s := 62) (by kernel_rfl) (hd.val (j := 30) (s := 62) (by kernel_rfl) K30), ?_⟩
            have e0 := hh 7 _ rfl rfl
            have E0 := eval_tmp e0
            exact giv_move rfl E0 K35
          · refine asks_mk fun a W hS hh hd => ⟨wanted_of (j := 30) (s := 62) (by kernel_rfl) (hd.val (j := 30) (s := 62) (by kernel_rfl) K30), ?_⟩
            have e0 := hh 9 _ rfl rfl
            have E0 := eval_tmp e0
            exact giv_move rfl E0 K36
          · refine asks_mk fun a W hS hh hd => ⟨wanted_of (j := 30) (s := 62) (by kernel_rfl) (hd.val (j := 30) (s := 62) (by kernel_rfl) K30), ?_⟩
            have e0 := hd.val (j := 35) (s := 67) (by kernel_rfl) K35
            have E0 := eval_tmp e0
            have e1 := hd.val (j := 36) (s := 68) (by kernel_rfl) K36
            have E1 := eval_tmp e1
            refine giv_val (c := (.string ⟨x2.toArray⟩)) ?_ K37 rfl
            go_simp
          · refine asks_mk fun a W hS hh hd => ⟨wanted_of (j := 30) (s := 62) (by kernel_rfl) (hd.val (j := 30) (s := 62) (by kernel_rfl) K30), ?_⟩
            have e0 := hd.val (j := 34) (s := 66) (by kernel_rfl) K34
            have E0 := eval_tmp e0
            have e2 := hd.val (j := 37) (s := 69) (by kernel_rfl) K37
            have E2 := eval_tmp e2
            refine giv_strs [x1, [], x2] 9 ?_ K38
            go_simp
            rfl
          · refine asks_mk fun a W hS hh hd => ⟨wanted_of (j := 30) (s := 62) (by kernel_rfl) (hd.val (j := 30) (s := 62) (by kernel_rfl) K30), ?_⟩
            have e0 := hd.val (j := 31) (s := 63) (by kernel_rfl) K31
            have E0 := eval_tmp e0
            obtain ⟨v1, e1, s1⟩ := hd.strs (j := 38) (s := 70) (by kernel_rfl) K38
            have E1 := eval_tmp e1
            refine giv_call (f := 12) (args := #[(.agg (cells8 k)), v1]) ?_ ?_ K39
            · go_simp
            · exact HF3.out ▸ keyed_any k [x1, [], x2] _ W HK.out (HG2.out.below hS) s1 (by rw [HF3.out]; omega) (by simp)
          · refine asks_mk fun a W hS hh hd => ⟨wanted_of (j := 30) (s := 62) (by kernel_rfl) (hd.val (j := 30) (s := 62) (by kernel_rfl) K30), ?_⟩
            have e0 := hh 3 _ rfl rfl
            have E0 := eval_tmp e0
            exact giv_loadB hS 28 (.tmp 3) rfl w.heap.size E0 hB2 Tryd.underlying28 rfl sz32k HK8.out K40
          · refine asks_mk fun a W hS hh hd => ⟨wanted_of (j := 30) (s := 62) (by kernel_rfl) (hd.val (j := 30) (s := 62) (by kernel_rfl) K30), ?_⟩
            have e0 := hh 7 _ rfl rfl
            have E0 := eval_tmp e0
            exact giv_move rfl E0 K41
          · refine asks_mk fun a W hS hh hd => ⟨wanted_of (j := 30) (s := 62) (by kernel_rfl) (hd.val (j := 30) (s := 62) (by kernel_rfl) K30), ?_⟩
            have e0 := hd.val (j := 41) (s := 73) (by kernel_rfl) K41
            have E0 := eval_tmp e0
            refine giv_strs [F] 9 ?_ K42
            go_simp
            rfl
          · refine asks_mk fun a W hS hh hd => ⟨wanted_of (j := 30) (s := 62) (by kernel_rfl) (hd.val (j := 30) (s := 62) (by kernel_rfl) K30), ?_⟩
            have e0 := hd.val (j := 40) (s := 72) (by kernel_rfl) K40
            have E0 := eval_tmp e0
            obtain ⟨v1, e1, s1⟩ := hd.strs (j := 42) (s := 74) (by kernel_rfl) K42
            have E1 := eval_tmp e1
            refine giv_call (f := 12) (args := #[(.agg (cells8 k)), v1]) ?_ ?_ K43
            · go_simp
            · exact HF1.out ▸ keyed_any k [F] _ W HK.out (HG2.out.below hS) s1 (by rw [HF1.out]; omega) (by simp)
          · refine asks_mk fun a W hS hh hd => ⟨wanted_of (j := 30) (s := 62) (by kernel_rfl) (hd.val (j := 30) (s := 62) (by kernel_rfl) K30), ?_⟩
            have e0 := hd.val (j := 39) (s := 71) (by kernel_rfl) K39
            have E0 := eval_tmp e0
            have e1 := hd.val (j := 43) (s := 75) (by kernel_rfl) K43
            have E1 := eval_tmp e1
            exact giv_eql 24 24 (.tmp 71) (.tmp 75) rfl E0 E1 (by kernel_rfl) (eqSame (keyedS k F) (keyedS_len _ _)) K44
          · refine asks_mk fun a W hS hh hd => ⟨wanted_yes rfl, ?_⟩
            have e0 := hd.val (j := 30) (s := 62) (by kernel_rfl) K30
            have E0 := eval_tmp e0
            have e1 := hd.val (j := 44) (s := 76) (by kernel_rfl) K44
            have E1 := eval_tmp e1
            refine giv_val (c := (.bool true)) ?_ K45 rfl
            go_simp
          · refine asks_mk fun a W hS hh hd => ⟨wanted_yes rfl, ?_⟩
            have e0 := hd.val (j := 45) (s := 77) (by kernel_rfl) K45
            have E0 := eval_tmp e0
            exact giv_assign rfl E0 K46
        · intro a W hS hK
          have e6 := hK.val (i := 46) (s := 6) (by kernel_rfl) K46
          have hdf := hK.defers
          clear K0 K1 K2 K3 K4 K5 K6 K7 K8 K9 K10 K11 K12 K13 K14 K15 K16 K17 K18 K19 K20 K21 K22 K23 K24 K25 K26 K27 K28 K29 K30 K31 K32 K33 K34 K35 K36 K37 K38 K39 K40 K41 K42 K43 K44 K45 K46 hK
          go_wp2
          exact bodyPost_ret (results_tmp rfl a.tmps _ W) hdf ⟨by simp [e6], hb1.trans (hS.mono hb1.size)⟩
  · go_wp2
    go_ret
    exact ⟨rfl, hb1⟩
end Go.Proofs.YthimejahpgihkaaDoor
