/- The walk of the law SealStreams. Printed by gen_slaw3.py. -/
import Derived.Test.YtilbebjjmnncdaaDoorSealAwake
import Derived.Test.YtilbebjjmnncdaaDoorSealBytes
namespace Go.Proofs.YtilbebjjmnncdaaDoor
open Go.RowKit

attribute [local go_sem] str_byte
set_option maxRecDepth 100000 in
set_option maxHeartbeats 400000 in
theorem lawStreams_any (k nonce d e : List UInt8) (w : World) (hG : Glob w) (hk : k.length = 32) (hn : nonce.length = 12) (hh : d.length ≤ maxLen) (hd : e.length ≤ maxLen) :
    Calls Tryd.prog 9 #[.agg (cells8 k), .agg (cells8 nonce), .string ⟨d.toArray⟩, .string ⟨e.toArray⟩] w fun x w' => x = .returned (.bool true) ∧ Below w.heap.size w w' := by
  have HG := Lib.hid hG
  have HK := Lib.hid hk
  have HN := Lib.hid hn
  have HK8 : Hid ((cells8 k).size = 32) := Lib.hid (by rw [cells8_size]; exact hk)
  have HN8 : Hid ((cells8 nonce).size = 12) := Lib.hid (by rw [cells8_size]; exact hn)
  clear hG hk hn
  unfold maxLen at hh hd
  go_enter Tryd.func9, Tryd.ntmps9
  go_upto_region 1 with (fail)
  have hKB : Blk ((w.alloc (.cells (cells8 k) 23)).alloc (.cells (cells8 nonce) 24)) w.heap.size 23 (cells8 k) := (Blk.new _ _ _).alloc _
  have hNB : Blk ((w.alloc (.cells (cells8 k) 23)).alloc (.cells (cells8 nonce) 24)) (w.heap.size + 1) 24 (cells8 nonce) := Blk.newAt _ _ _ (by simp)
  have hb : Below w.heap.size w ((w.alloc (.cells (cells8 k) 23)).alloc (.cells (cells8 nonce) 24)) := ((Below.refl _ _).alloc (Nat.le_refl _) _).alloc (by simp) _
  generalize (w.alloc (.cells (cells8 k) 23)).alloc (.cells (cells8 nonce) 24) = w1 at *
  have HG1 := Lib.hid (HG.out.below hb)
  have HKB := Lib.hid hKB
  have HNB := Lib.hid hNB
  have HBW := Lib.hid hb
  clear hKB hNB hb HG
  by_cases hlong : d.length > 300 ∨ e.length > 300
  · have hcase : (300 : Int) < d.length ∨ ((¬ (300 : Int) < d.length) ∧ (300 : Int) < e.length) := by omega
    rcases hcase with h1 | ⟨h1, h2⟩
    all_goals go_wp2_with fail
    all_goals refine (awake_any _ HG1.out).mono ?_
    all_goals rintro x w2 ⟨rfl, hb2⟩
    all_goals go_wp2_with fail
    all_goals go_ret
    all_goals exact ⟨rfl, HBW.out.trans (hb2.mono HBW.out.size)⟩
  · have h1 : ¬ (300 : Int) < d.length := by omega
    have h2 : ¬ (300 : Int) < e.length := by omega
    obtain ⟨S1, hS1⟩ : ∃ S1, sealS k nonce [111, 110, 101] d = S1 := ⟨_, rfl⟩
    obtain ⟨S2, hS2⟩ : ∃ S2, sealS k nonce [116, 119, 111] e = S2 := ⟨_, rfl⟩
    have HS1 := Lib.hid hS1
    have HS2 := Lib.hid hS2
    have HL1 : Hid (S1.length = d.length + 44) := Lib.hid (by rw [← hS1, sealS_len _ _ _ _ HN.out])
    have HL2 : Hid (S2.length = e.length + 44) := Lib.hid (by rw [← hS2, sealS_len _ _ _ _ HN.out])
    have HPR : Hid (∀ i, i < d.length → i < e.length → bt S1 (12 + i) ^^^ bt S2 (12 + i) = bt d i ^^^ bt e i) := Lib.hid (fun i hi hj => by rw [← hS1, ← hS2]; exact sealS_pair k nonce _ _ d e HN.out i hi hj)
    clear hS1 hS2
    have hKB := HKB.out
    have hNB := HNB.out
    go_upto_region 3 with (fail)
    obtain ⟨KL, hKL⟩ : ∃ KL, KL = [kval (.agg (cells8 k)), kval (.agg (cells8 nonce)), kval (.string ⟨d.toArray⟩), kval (.string ⟨S1.toArray⟩), kval (.agg (cells8 k)), kval (.agg (cells8 nonce)), kval (.string ⟨e.toArray⟩), kval (.string ⟨S2.toArray⟩), kval (.string ⟨S1.toArray⟩), kval (.string ⟨S2.toArray⟩)] := ⟨_, rfl⟩
    have K0 : KL.getD 0 kany = kval (.agg (cells8 k)) := by rw [hKL]; rfl
    have K1 : KL.getD 1 kany = kval (.agg (cells8 nonce)) := by rw [hKL]; rfl
    have K2 : KL.getD 2 kany = kval (.string ⟨d.toArray⟩) := by rw [hKL]; rfl
    have K3 : KL.getD 3 kany = kval (.string ⟨S1.toArray⟩) := by rw [hKL]; rfl
    have K4 : KL.getD 4 kany = kval (.agg (cells8 k)) := by rw [hKL]; rfl
    have K5 : KL.getD 5 kany = kval (.agg (cells8 nonce)) := by rw [hKL]; rfl
    have K6 : KL.getD 6 kany = kval (.string ⟨e.toArray⟩) := by rw [hKL]; rfl
    have K7 : KL.getD 7 kany = kval (.string ⟨S2.toArray⟩) := by rw [hKL]; rfl
    have K8 : KL.getD 8 kany = kval (.string ⟨S1.toArray⟩) := by rw [hKL]; rfl
    have K9 : KL.getD 9 kany = kval (.string ⟨S2.toArray⟩) := by rw [hKL]; rfl
    clear hKL
    refine wp_region_kd 73 (by kernel_rfl) (by kernel_rfl) (by kernel_rfl) rfl KL ?_ ?_
    · refine ⟨?_, ?_, ?_, ?_, ?_, ?_, ?_, ?_, ?_, ?_, trivial⟩
      · refine asks_mk fun a W hS hh hd => ⟨wanted_yes rfl, ?_⟩
        have e0 := hh 4 _ rfl rfl
        have E0 := eval_tmp e0
        exact giv_loadB hS 23 (.tmp 4) rfl w.heap.size E0 hKB Tryd.underlying23 rfl sz32k HK8.out K0
      · refine asks_mk fun a W hS hh hd => ⟨wanted_yes rfl, ?_⟩
        have e0 := hh 5 _ rfl rfl
        have E0 := eval_tmp e0
        exact giv_loadB hS 24 (.tmp 5) rfl (w.heap.size + 1) E0 hNB Tryd.underlying24 rfl sz12q HN8.out K1
      · refine asks_mk fun a W hS hh hd => ⟨wanted_yes rfl, ?_⟩
        have e0 := hh 2 _ rfl rfl
        have E0 := eval_tmp e0
        exact giv_move rfl E0 K2
      · refine asks_mk fun a W hS hh hd => ⟨wanted_yes rfl, ?_⟩
        have e0 := hd.val (j := 0) (s := 21) (by kernel_rfl) K0
        have E0 := eval_tmp e0
        have e1 := hd.val (j := 1) (s := 22) (by kernel_rfl) K1
        have E1 := eval_tmp e1
        have e3 := hd.val (j := 2) (s := 23) (by kernel_rfl) K2
        have E3 := eval_tmp e3
        refine giv_call (f := 13) (args := #[(.agg (cells8 k)), (.agg (cells8 nonce)), (.string ⟨List.toArray [111, 110, 101]⟩), (.string ⟨d.toArray⟩)]) ?_ ?_ K3
        · go_simp
        · exact HS1.out ▸ sseal_any k nonce [111, 110, 101] d W (HG1.out.below hS) HK.out HN.out (by simp; omega)
      · refine asks_mk fun a W hS hh hd => ⟨wanted_yes rfl, ?_⟩
        have e0 := hh 4 _ rfl rfl
        have E0 := eval_tmp e0
        exact giv_loadB hS 23 (.tmp 4) rfl w.heap.size E0 hKB Tryd.underlying23 rfl sz32k HK8.out K4
      · refine asks_mk fun a W hS hh hd => ⟨wanted_yes rfl, ?_⟩
        have e0 := hh 5 _ rfl rfl
        have E0 := eval_tmp e0
        exact giv_loadB hS 24 (.tmp 5) rfl (w.heap.size + 1) E0 hNB Tryd.underlying24 rfl sz12q HN8.out K5
      · refine asks_mk fun a W hS hh hd => ⟨wanted_yes rfl, ?_⟩
        have e0 := hh 3 _ rfl rfl
        have E0 := eval_tmp e0
        exact giv_move rfl E0 K6
      · refine asks_mk fun a W hS hh hd => ⟨wanted_yes rfl, ?_⟩
        have e0 := hd.val (j := 4) (s := 25) (by kernel_rfl) K4
        have E0 := eval_tmp e0
        have e1 := hd.val (j := 5) (s := 26) (by kernel_rfl) K5
        have E1 := eval_tmp e1
        have e3 := hd.val (j := 6) (s := 27) (by kernel_rfl) K6
        have E3 := eval_tmp e3
        refine giv_call (f := 13) (args := #[(.agg (cells8 k)), (.agg (cells8 nonce)), (.string ⟨List.toArray [116, 119, 111]⟩), (.string ⟨e.toArray⟩)]) ?_ ?_ K7
        · go_simp
        · exact HS2.out ▸ sseal_any k nonce [116, 119, 111] e W (HG1.out.below hS) HK.out HN.out (by simp; omega)
      · refine asks_mk fun a W hS hh hd => ⟨wanted_yes rfl, ?_⟩
        have e0 := hd.val (j := 3) (s := 24) (by kernel_rfl) K3
        have E0 := eval_tmp e0
        exact giv_assign rfl E0 K8
      · refine asks_mk fun a W hS hh hd => ⟨wanted_yes rfl, ?_⟩
        have e0 := hd.val (j := 7) (s := 28) (by kernel_rfl) K7
        have E0 := eval_tmp e0
        exact giv_assign rfl E0 K9
    · intro a W hS hK
      have e0 := hK.val (i := 0) (s := 21) (by kernel_rfl) K0
      have e1 := hK.val (i := 1) (s := 22) (by kernel_rfl) K1
      have e2 := hK.val (i := 2) (s := 23) (by kernel_rfl) K2
      have e3 := hK.val (i := 3) (s := 24) (by kernel_rfl) K3
      have e4 := hK.val (i := 4) (s := 25) (by kernel_rfl) K4
      have e5 := hK.val (i := 5) (s := 26) (by kernel_rfl) K5
      have e6 := hK.val (i := 6) (s := 27) (by kernel_rfl) K6
      have e7 := hK.val (i := 7) (s := 28) (by kernel_rfl) K7
      have e8 := hK.val (i := 8) (s := 9) (by kernel_rfl) K8
      have e9 := hK.val (i := 9) (s := 10) (by kernel_rfl) K9
      have hfr := hK.frame [(.agg (cells8 k)), (.agg (cells8 nonce)), (.string ⟨d.toArray⟩), (.string ⟨S1.toArray⟩), (.agg (cells8 k)), (.agg (cells8 nonce)), (.string ⟨e.toArray⟩), (.string ⟨S2.toArray⟩), (.string ⟨S1.toArray⟩), (.string ⟨S2.toArray⟩)] ⟨e0, e1, e2, e3, e4, e5, e6, e7, e8, e9, trivial⟩
      clear K0 e0 K1 e1 K2 e2 K3 e3 K4 e4 K5 e5 K6 e6 K7 e7 K8 e8 K9 e9 hK
      subst hfr
      simp only [putAll, Act.put, List.setIfInBounds_toArray, List.set_cons_succ, List.set_cons_zero]
      have HB2 := Lib.hid (HBW.out.trans (hS.mono HBW.out.size))
      have HG2 := Lib.hid (HG1.out.below hS)
      clear hS hKB hNB hh hd hlong
      have hl1 := HL1.out
      have hl2 := HL2.out
      go_wp2_with fail
      go_loopw [11] (fun v wr => ∃ i : Nat, i ≤ d.length ∧ i ≤ e.length ∧ v = .int .i64 i ∧ Below w.heap.size w wr ∧ Glob wr) (fun v _ => d.length - (intOf v).toNat)
      case atStart => exact ⟨0, by omega, by omega, rfl, HB2.out, HG2.out⟩
      case round =>
        obtain ⟨i, hi, hj, rfl, hb, hGr⟩ := hrel
        have HGr := Lib.hid hGr
        clear hGr
        have HB := Lib.hid hb
        clear hb
        by_cases hlt : i < d.length ∧ i < e.length
        · obtain ⟨hlt1, hlt2⟩ := hlt
          have hlt1' : (i : Int) < d.length := by omega
          have hlt2' : (i : Int) < e.length := by omega
          go_upto_region 9 with (fail)
          obtain ⟨x1, hx1⟩ : ∃ x1, bt S1 (12 + i) = x1 := ⟨_, rfl⟩
          obtain ⟨x2, hx2⟩ : ∃ x2, bt S2 (12 + i) = x2 := ⟨_, rfl⟩
          obtain ⟨x3, hx3⟩ : ∃ x3, bt d i = x3 := ⟨_, rfl⟩
          obtain ⟨x4, hx4⟩ : ∃ x4, bt e i = x4 := ⟨_, rfl⟩
          have hp := HPR.out i hlt1 hlt2
          rw [hx1, hx2, hx3, hx4] at hp
          obtain ⟨y, hy⟩ : ∃ y, x3 ^^^ x4 = y := ⟨_, rfl⟩
          have hy1 : bits .xor .u8 (x1.toNat : Int) (x2.toNat : Int) = (y.toNat : Int) := by rw [xor8, hp, hy]
          have hy2 : bits .xor .u8 (x3.toNat : Int) (x4.toNat : Int) = (y.toNat : Int) := by rw [xor8, hy]
          clear hp hy
          have hti : (12 + (i : Int)).toNat = 12 + i := by omega
          have hwr : IntKind.i64.wrap (12 + (i : Int)) = 12 + (i : Int) := by rw [IntKind.wrap_i64]; omega
          have hb1 : 12 + (i : Int) < d.length + 44 := by omega
          have hb2 : 12 + (i : Int) < e.length + 44 := by omega
          have hb3 : 12 + i < d.length + 44 := by omega
          have hb4 : 12 + i < e.length + 44 := by omega
          have hb0 : 0 ≤ 12 + (i : Int) := by omega
          obtain ⟨KL, hKL⟩ : ∃ KL, KL = [kval (.string ⟨S1.toArray⟩), kval (.int .i64 (i : Int)), kval (.int .i64 (12 + (i : Int))), kval (.int .u8 (x1.toNat : Int)), kval (.string ⟨S2.toArray⟩), kval (.int .i64 (i : Int)), kval (.int .i64 (12 + (i : Int))), kval (.int .u8 (x2.toNat : Int)), kval (.int .u8 (y.toNat : Int)), kval (.string ⟨d.toArray⟩), kval (.int .i64 (i : Int)), kval (.int .u8 (x3.toNat : Int)), kval (.string ⟨e.toArray⟩), kval (.int .i64 (i : Int)), kval (.int .u8 (x4.toNat : Int)), kval (.int .u8 (y.toNat : Int)), kval (.bool false)] := ⟨_, rfl⟩
          have K0 : KL.getD 0 kany = kval (.string ⟨S1.toArray⟩) := by rw [hKL]; rfl
          have K1 : KL.getD 1 kany = kval (.int .i64 (i : Int)) := by rw [hKL]; rfl
          have K2 : KL.getD 2 kany = kval (.int .i64 (12 + (i : Int))) := by rw [hKL]; rfl
          have K3 : KL.getD 3 kany = kval (.int .u8 (x1.toNat : Int)) := by rw [hKL]; rfl
          have K4 : KL.getD 4 kany = kval (.string ⟨S2.toArray⟩) := by rw [hKL]; rfl
          have K5 : KL.getD 5 kany = kval (.int .i64 (i : Int)) := by rw [hKL]; rfl
          have K6 : KL.getD 6 kany = kval (.int .i64 (12 + (i : Int))) := by rw [hKL]; rfl
          have K7 : KL.getD 7 kany = kval (.int .u8 (x2.toNat : Int)) := by rw [hKL]; rfl
          have K8 : KL.getD 8 kany = kval (.int .u8 (y.toNat : Int)) := by rw [hKL]; rfl
          have K9 : KL.getD 9 kany = kval (.string ⟨d.toArray⟩) := by rw [hKL]; rfl
          have K10 : KL.getD 10 kany = kval (.int .i64 (i : Int)) := by rw [hKL]; rfl
          have K11 : KL.getD 11 kany = kval (.int .u8 (x3.toNat : Int)) := by rw [hKL]; rfl
          have K12 : KL.getD 12 kany = kval (.string ⟨e.toArray⟩) := by rw [hKL]; rfl
          have K13 : KL.getD 13 kany = kval (.int .i64 (i : Int)) := by rw [hKL]; rfl
          have K14 : KL.getD 14 kany = kval (.int .u8 (x4.toNat : Int)) := by rw [hKL]; rfl
          have K15 : KL.getD 15 kany = kval (.int .u8 (y.toNat : Int)) := by rw [hKL]; rfl
          have K16 : KL.getD 16 kany = kval (.bool false) := by rw [hKL]; rfl
          clear hKL
          refine wp_region_kd 73 (by kernel_rfl) (by kernel_rfl) (by kernel_rfl) rfl KL ?_ ?_
          · refine ⟨?_, ?_, ?_, ?_, ?_, ?_, ?_, ?_, ?_, ?_, ?_, ?_, ?_, ?_, ?_, ?_, ?_, trivial⟩
            · refine asks_mk fun a W hS hh hd => ⟨wanted_yes rfl, ?_⟩
              have e0 := hh 9 _ rfl rfl
              have E0 := eval_tmp e0
              exact giv_move rfl E0 K0
            · refine asks_mk fun a W hS hh hd => ⟨wanted_yes rfl, ?_⟩
              have e0 := hh 11 _ rfl rfl
              have E0 := eval_tmp e0
              exact giv_move rfl E0 K1
            · refine asks_mk fun a W hS hh hd => ⟨wanted_yes rfl, ?_⟩
              have e0 := hd.val (j := 1) (s := 56) (by kernel_rfl) K1
              have E0 := eval_tmp e0
              refine giv_val (c := (.int .i64 (12 + (i : Int)))) ?_ K2 rfl
              go_simp
            · refine asks_mk fun a W hS hh hd => ⟨wanted_yes rfl, ?_⟩
              have e0 := hd.val (j := 0) (s := 55) (by kernel_rfl) K0
              have E0 := eval_tmp e0
              have e1 := hd.val (j := 2) (s := 57) (by kernel_rfl) K2
              have E1 := eval_tmp e1
              refine giv_val (c := (.int .u8 (x1.toNat : Int))) ?_ K3 rfl
              go_simp
            · refine asks_mk fun a W hS hh hd => ⟨wanted_yes rfl, ?_⟩
              have e0 := hh 10 _ rfl rfl
              have E0 := eval_tmp e0
              exact giv_move rfl E0 K4
            · refine asks_mk fun a W hS hh hd => ⟨wanted_yes rfl, ?_⟩
              have e0 := hh 11 _ rfl rfl
              have E0 := eval_tmp e0
              exact giv_move rfl E0 K5
            · refine asks_mk fun a W hS hh hd => ⟨wanted_yes rfl, ?_⟩
              have e0 := hd.val (j := 5) (s := 60) (by kernel_rfl) K5
              have E0 := eval_tmp e0
              refine giv_val (c := (.int .i64 (12 + (i : Int)))) ?_ K6 rfl
              go_simp
            · refine asks_mk fun a W hS hh hd => ⟨wanted_yes rfl, ?_⟩
              have e0 := hd.val (j := 4) (s := 59) (by kernel_rfl) K4
              have E0 := eval_tmp e0
              have e1 := hd.val (j := 6) (s := 61) (by kernel_rfl) K6
              have E1 := eval_tmp e1
              refine giv_val (c := (.int .u8 (x2.toNat : Int))) ?_ K7 rfl
              go_simp
            · refine asks_mk fun a W hS hh hd => ⟨wanted_yes rfl, ?_⟩
              have e0 := hd.val (j := 3) (s := 58) (by kernel_rfl) K3
              have E0 := eval_tmp e0
              have e1 := hd.val (j := 7) (s := 62) (by kernel_rfl) K7
              have E1 := eval_tmp e1
              refine giv_val (c := (.int .u8 (y.toNat : Int))) ?_ K8 rfl
              go_simp
            · refine asks_mk fun a W hS hh hd => ⟨wanted_yes rfl, ?_⟩
              have e0 := hh 2 _ rfl rfl
              have E0 := eval_tmp e0
              exact giv_move rfl E0 K9
            · refine asks_mk fun a W hS hh hd => ⟨wanted_yes rfl, ?_⟩
              have e0 := hh 11 _ rfl rfl
              have E0 := eval_tmp e0
              exact giv_move rfl E0 K10
            · refine asks_mk fun a W hS hh hd => ⟨wanted_yes rfl, ?_⟩
              have e0 := hd.val (j := 9) (s := 64) (by kernel_rfl) K9
              have E0 := eval_tmp e0
              have e1 := hd.val (j := 10) (s := 65) (by kernel_rfl) K10
              have E1 := eval_tmp e1
              refine giv_val (c := (.int .u8 (x3.toNat : Int))) ?_ K11 rfl
              go_simp
            · refine asks_mk fun a W hS hh hd => ⟨wanted_yes rfl, ?_⟩
              have e0 := hh 3 _ rfl rfl
              have E0 := eval_tmp e0
              exact giv_move rfl E0 K12
            · refine asks_mk fun a W hS hh hd => ⟨wanted_yes rfl, ?_⟩
              have e0 := hh 11 _ rfl rfl
              have E0 := eval_tmp e0
              exact giv_move rfl E0 K13
            · refine asks_mk fun a W hS hh hd => ⟨wanted_yes rfl, ?_⟩
              have e0 := hd.val (j := 12) (s := 67) (by kernel_rfl) K12
              have E0 := eval_tmp e0
              have e1 := hd.val (j := 13) (s := 68) (by kernel_rfl) K13
              have E1 := eval_tmp e1
              refine giv_val (c := (.int .u8 (x4.toNat : Int))) ?_ K14 rfl
              go_simp
            · refine asks_mk fun a W hS hh hd => ⟨wanted_yes rfl, ?_⟩
              have e0 := hd.val (j := 11) (s := 66) (by kernel_rfl) K11
              have E0 := eval_tmp e0
              have e1 := hd.val (j := 14) (s := 69) (by kernel_rfl) K14
              have E1 := eval_tmp e1
              refine giv_val (c := (.int .u8 (y.toNat : Int))) ?_ K15 rfl
              go_simp
            · refine asks_mk fun a W hS hh hd => ⟨wanted_yes rfl, ?_⟩
              have e0 := hd.val (j := 8) (s := 63) (by kernel_rfl) K8
              have E0 := eval_tmp e0
              have e1 := hd.val (j := 15) (s := 70) (by kernel_rfl) K15
              have E1 := eval_tmp e1
              refine giv_val (c := (.bool false)) ?_ K16 rfl
              go_simp
          · intro a W2 hS hK
            have e0 := hK.val (i := 0) (s := 55) (by kernel_rfl) K0
            have e1 := hK.val (i := 1) (s := 56) (by kernel_rfl) K1
            have e2 := hK.val (i := 2) (s := 57) (by kernel_rfl) K2
            have e3 := hK.val (i := 3) (s := 58) (by kernel_rfl) K3
            have e4 := hK.val (i := 4) (s := 59) (by kernel_rfl) K4
            have e5 := hK.val (i := 5) (s := 60) (by kernel_rfl) K5
            have e6 := hK.val (i := 6) (s := 61) (by kernel_rfl) K6
            have e7 := hK.val (i := 7) (s := 62) (by kernel_rfl) K7
            have e8 := hK.val (i := 8) (s := 63) (by kernel_rfl) K8
            have e9 := hK.val (i := 9) (s := 64) (by kernel_rfl) K9
            have e10 := hK.val (i := 10) (s := 65) (by kernel_rfl) K10
            have e11 := hK.val (i := 11) (s := 66) (by kernel_rfl) K11
            have e12 := hK.val (i := 12) (s := 67) (by kernel_rfl) K12
            have e13 := hK.val (i := 13) (s := 68) (by kernel_rfl) K13
            have e14 := hK.val (i := 14) (s := 69) (by kernel_rfl) K14
            have e15 := hK.val (i := 15) (s := 70) (by kernel_rfl) K15
            have e16 := hK.val (i := 16) (s := 71) (by kernel_rfl) K16
            have hfr := hK.frame [(.string ⟨S1.toArray⟩), (.int .i64 (i : Int)), (.int .i64 (12 + (i : Int))), (.int .u8 (x1.toNat : Int)), (.string ⟨S2.toArray⟩), (.int .i64 (i : Int)), (.int .i64 (12 + (i : Int))), (.int .u8 (x2.toNat : Int)), (.int .u8 (y.toNat : Int)), (.string ⟨d.toArray⟩), (.int .i64 (i : Int)), (.int .u8 (x3.toNat : Int)), (.string ⟨e.toArray⟩), (.int .i64 (i : Int)), (.int .u8 (x4.toNat : Int)), (.int .u8 (y.toNat : Int)), (.bool false)] ⟨e0, e1, e2, e3, e4, e5, e6, e7, e8, e9, e10, e11, e12, e13, e14, e15, e16, trivial⟩
            clear K0 e0 K1 e1 K2 e2 K3 e3 K4 e4 K5 e5 K6 e6 K7 e7 K8 e8 K9 e9 K10 e10 K11 e11 K12 e12 K13 e13 K14 e14 K15 e15 K16 e16 hK
            subst hfr
            simp only [putAll, Act.put, List.setIfInBounds_toArray, List.set_cons_succ, List.set_cons_zero]
            have HBX := Lib.hid (HB.out.trans (hS.mono HB.out.size))
            have HGX := Lib.hid (HGr.out.below hS)
            clear hS
            go_wp2_with fail
            go_roundw
            case rel => exact ⟨i + 1, by omega, by omega, by go_num, HBX.out, HGX.out⟩
            case measure => simp [intOf]; omega
        · have hcase : (i : Int) < d.length ∧ ¬ (i : Int) < e.length ∨ ¬ (i : Int) < d.length := by omega
          rcases hcase with ⟨c1, c2⟩ | c1
          all_goals go_wp2_with fail
          all_goals refine (awake_any _ HGr.out).mono ?_
          all_goals rintro x w5 ⟨rfl, hb5⟩
          all_goals go_wp2_with fail
          all_goals go_ret
          all_goals exact ⟨rfl, HB.out.trans (hb5.mono HB.out.size)⟩
end Go.Proofs.YtilbebjjmnncdaaDoor
