/- The walk of seal.tag. Printed by gen_seal2.py. -/
import Derived.Test.YtilbebjjmnncdaaDoorKeyed
import Derived.Test.YtilbebjjmnncdaaDoorOwn
import Derived.Test.YtilbebjjmnncdaaDoorFrame
import Derived.Test.YtilbebjjmnncdaaDoorLooseTail
import Derived.Test.YtilbebjjmnncdaaDoorNumRow
namespace Go.Proofs.YtilbebjjmnncdaaDoor
open Go.RowKit

/-- a tag under the tags' key. -/
def tagK (k h x : List UInt8) : List UInt8 := keyedS k (rowS [h, x])
theorem tagK_len (k h x : List UInt8) : (tagK k h x).length = 32 := keyedS_len _ _
set_option maxRecDepth 100000 in
set_option maxHeartbeats 1000000 in
theorem stag_any (k h x : List UInt8) (w : World) (hG : Glob w) (hk : k.length = 32) (hl : h.length + x.length < 2 ^ 42) :
    Calls Tryd.prog 33 #[.agg (cells8 k), .string ⟨h.toArray⟩, .string ⟨x.toArray⟩] w fun e w' => e = .returned (.string ⟨(tagK k h x).toArray⟩) ∧ Below w.heap.size w w' := by
  have HG := Lib.hid hG
  have HK := Lib.hid hk
  have HK8 : Hid ((cells8 k).size = 32) := Lib.hid (by rw [cells8_size]; exact hk)
  clear hG hk
  have HSL : Hid ([h, x].flatten.length < 2 ^ 44) := Lib.hid (by simp; omega)
  have hrl := rowS_len [h, x]
  obtain ⟨R, hR⟩ : ∃ R, rowS [h, x] = R := ⟨_, rfl⟩
  obtain ⟨D, hD⟩ : ∃ D, keyedS k [R].flatten = D := ⟨_, rfl⟩
  have HRL : Hid ([R].flatten.length < 2 ^ 60) := Lib.hid (by rw [← hR]; simp at hrl ⊢; omega)
  have HR := Lib.hid hR
  have HD := Lib.hid hD
  have HD8 : Hid ((cells8 D).size = 32) := Lib.hid (by rw [← hD, cells8_size, keyedS_len])
  have HDL : Hid (D.length = 32) := Lib.hid (by rw [← hD, keyedS_len])
  have HRES : Hid (tagK k h x = D) := Lib.hid (by unfold tagK; rw [hR, ← hD]; simp)
  have HZ : Hid ((cells8 (List.replicate 32 0)).size = 32) := Lib.hid (by rw [cells8_size, List.length_replicate])
  clear hR hD hrl
  rw [HRES.out]
  clear HRES
  go_enter Tryd.func33, Tryd.ntmps33
  go_upto_region 1 with (fail)
  have hB : Blk (w.alloc (.cells (cells8 k) 23)) w.heap.size 23 (cells8 k) := Blk.new _ _ _
  have hb : Below w.heap.size w (w.alloc (.cells (cells8 k) 23)) := (Below.refl _ _).alloc (Nat.le_refl _) _
  generalize w.alloc (.cells (cells8 k) 23) = w1 at *
  have HG1 := Lib.hid (HG.out.below hb)
  obtain ⟨KL, hKL⟩ : ∃ KL, KL = [kval (.agg (cells8 k)), kval (.string ⟨h.toArray⟩), kval (.string ⟨x.toArray⟩), kstrs [h, x], kval (.string ⟨R.toArray⟩), kstrs [R], kval (.agg (cells8 D)), kptr w1.heap.size 37 (cells8 (List.replicate 32 0))] := ⟨_, rfl⟩
  have K0 : KL.getD 0 kany = kval (.agg (cells8 k)) := by rw [hKL]; rfl
  have K1 : KL.getD 1 kany = kval (.string ⟨h.toArray⟩) := by rw [hKL]; rfl
  have K2 : KL.getD 2 kany = kval (.string ⟨x.toArray⟩) := by rw [hKL]; rfl
  have K3 : KL.getD 3 kany = kstrs [h, x] := by rw [hKL]; rfl
  have K4 : KL.getD 4 kany = kval (.string ⟨R.toArray⟩) := by rw [hKL]; rfl
  have K5 : KL.getD 5 kany = kstrs [R] := by rw [hKL]; rfl
  have K6 : KL.getD 6 kany = kval (.agg (cells8 D)) := by rw [hKL]; rfl
  have K7 : KL.getD 7 kany = kptr w1.heap.size 37 (cells8 (List.replicate 32 0)) := by rw [hKL]; rfl
  have HKL : Hid (KL.length ≤ 8) := Lib.hid (by rw [hKL]; exact Nat.le_refl _)
  clear hKL
  refine wp_region_kdTail 17 8 (by kernel_rfl) (by kernel_rfl) (by kernel_rfl) (by kernel_rfl) rfl KL HKL.out ?_ ?_
  · refine ⟨?_, ?_, ?_, ?_, ?_, ?_, ?_, ?_, trivial⟩
    · refine asks_mk fun a W hS hh hd => ⟨wanted_yes rfl, ?_⟩
      have e0 := hh 3 _ rfl rfl
      have E0 := eval_tmp e0
      exact giv_loadB hS 23 (.tmp 3) rfl w.heap.size E0 hB Tryd.underlying23 rfl sz32k HK8.out K0
    · refine asks_mk fun a W hS hh hd => ⟨wanted_yes rfl, ?_⟩
      have e0 := hh 1 _ rfl rfl
      have E0 := eval_tmp e0
      exact giv_move rfl E0 K1
    · refine asks_mk fun a W hS hh hd => ⟨wanted_yes rfl, ?_⟩
      have e0 := hh 2 _ rfl rfl
      have E0 := eval_tmp e0
      exact giv_move rfl E0 K2
    · refine asks_mk fun a W hS hh hd => ⟨wanted_yes rfl, ?_⟩
      have e0 := hd.val (j := 1) (s := 9) (by kernel_rfl) K1
      have E0 := eval_tmp e0
      have e1 := hd.val (j := 2) (s := 10) (by kernel_rfl) K2
      have E1 := eval_tmp e1
      refine giv_strs [h, x] 9 ?_ K3
      go_simp
      rfl
    · refine asks_mk fun a W hS hh hd => ⟨wanted_yes rfl, ?_⟩
      obtain ⟨v0, e0, s0⟩ := hd.strs (j := 3) (s := 11) (by kernel_rfl) K3
      have E0 := eval_tmp e0
      refine giv_call (f := 20) (args := #[v0]) ?_ ?_ K4
      · go_simp
      · exact HR.out ▸ nrow_any [h, x] _ W s0 HSL.out (by simp)
    · refine asks_mk fun a W hS hh hd => ⟨wanted_yes rfl, ?_⟩
      have e0 := hd.val (j := 4) (s := 12) (by kernel_rfl) K4
      have E0 := eval_tmp e0
      refine giv_strs [R] 9 ?_ K5
      go_simp
      rfl
    · refine asks_mk fun a W hS hh hd => ⟨wanted_yes rfl, ?_⟩
      have e0 := hd.val (j := 0) (s := 8) (by kernel_rfl) K0
      have E0 := eval_tmp e0
      obtain ⟨v1, e1, s1⟩ := hd.strs (j := 5) (s := 13) (by kernel_rfl) K5
      have E1 := eval_tmp e1
      refine giv_call (f := 19) (args := #[(.agg (cells8 k)), v1]) ?_ ?_ K6
      · go_simp
      · exact HD.out ▸ keyed_any k [R] _ W HK.out (HG1.out.below hS) s1 HRL.out (by simp)
    · refine asks_mk fun a W hS hh hd => ⟨wanted_yes rfl, ?_⟩
      refine giv_alloc hS.size 37 (cells8 (List.replicate 32 0)) ?_ K7
      go_simp
      rfl
  · intro a W hS hK
    have e0 := hK.hval (i := 0) (s := 8) rfl (by kernel_rfl) K0
    have e1 := hK.hval (i := 1) (s := 9) rfl (by kernel_rfl) K1
    have e2 := hK.hval (i := 2) (s := 10) rfl (by kernel_rfl) K2
    obtain ⟨v3, e3, p3⟩ := hK.hget (i := 3) (s := 11) rfl (by kernel_rfl)
    have e4 := hK.hval (i := 4) (s := 12) rfl (by kernel_rfl) K4
    obtain ⟨v5, e5, p5⟩ := hK.hget (i := 5) (s := 13) rfl (by kernel_rfl)
    have e6 := hK.hval (i := 6) (s := 14) rfl (by kernel_rfl) K6
    obtain ⟨v7, e7, p7⟩ := hK.hget (i := 7) (s := 7) rfl (by kernel_rfl)
    have hfr := hK.hframe [(.agg (cells8 k)), (.string ⟨h.toArray⟩), (.string ⟨x.toArray⟩), v3, (.string ⟨R.toArray⟩), v5, (.agg (cells8 D)), v7] ⟨e0, e1, e2, e3, e4, e5, e6, e7, trivial⟩
    rw [K7] at p7
    obtain ⟨g, hg0, rfl, hg⟩ := p7
    have hb2 := hb.trans (hS.mono hb.size)
    have HBW : Hid (w.heap.size ≤ g) := Lib.hid (Nat.le_trans hb.size hg0)
    clear K0 K1 K2 K3 K4 K5 K6 K7 e0 e1 e2 e3 e4 e5 e6 e7 p3 p5 hK hS hB hb HKL
    subst hfr
    simp only [putAll, Act.put, List.take_succ_cons, List.take_zero, List.drop_succ_cons, List.drop_zero, List.setIfInBounds_toArray, List.set_cons_succ, List.set_cons_zero]
    go_upto_region 2 with (refine wpList_storeB rfl 37 (.tmp 7) (.tmp 14) rfl g (cells8 D) rfl rfl hg sz32d HD8.out HZ.out (cells8_one _) ?_)
    have hg2 := hg.row (cells8 D)
    have hb3 := below_row hb2 HBW.out (cells8 D)
    generalize W.setRow g (cells8 D) = W2 at *
    clear hg hb2
    have hsl := run_sliceArr_all (P := Tryd.prog) Tryd.underlying37 so8 g 0 (by decide)
    have hcv := run_strBlk (cap := 32) HDL.out hg2
    go_wp2
    go_ret
    exact ⟨rfl, hb3⟩
end Go.Proofs.YtilbebjjmnncdaaDoor
