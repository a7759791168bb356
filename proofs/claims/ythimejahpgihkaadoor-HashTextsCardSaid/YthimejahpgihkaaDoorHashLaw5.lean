/- The walk of the law HashTexts. Printed by gen_hlaw5.py. -/
import Derived.Test.YthimejahpgihkaaDoorHashLaw1
import Derived.Test.YthimejahpgihkaaDoorRhex
import Derived.Test.YthimejahpgihkaaDoorTexts
import Derived.Test.YthimejahpgihkaaDoorFrame
namespace Go.Proofs.YthimejahpgihkaaDoor
open Go.RowKit

set_option maxRecDepth 100000 in
set_option maxHeartbeats 1000000 in
theorem lawTexts_any (d e : List UInt8) (w : World) (hG : Glob w) (hd : d.length = 32) (he : e.length = 32) :
    Calls Tryd.prog 7 #[.agg (cells8 d), .agg (cells8 e)] w fun x w' => x = .returned (.bool true) ∧ Below w.heap.size w w' := by
  have HG := Lib.hid hG
  have HdL := Lib.hid hd
  have HeL := Lib.hid he
  have HOK := Lib.hid (hex_ok d hd)
  have HBK := Lib.hid (hex_back d hd)
  have HIN := Lib.hid (hex_inj d e hd he)
  have HDE := Lib.hid (eqD d e hd he)
  have HDD := Lib.hid (eqSame d hd)
  have HXL := Lib.hid (show (hexS d).length ≤ maxLen by rw [hexS_len, hd]; decide)
  have HD8 : Hid ((cells8 d).size = 32) := Lib.hid (by rw [cells8_size]; exact hd)
  have HE8 : Hid ((cells8 e).size = 32) := Lib.hid (by rw [cells8_size]; exact he)
  have HZ : Hid ((cells8 (List.replicate 32 0)).size = 32) := Lib.hid (by rw [cells8_size, List.length_replicate])
  clear hG hd he
  go_enter Tryd.func7, Tryd.ntmps7
  go_wp2_with fail
  refine (alive_any _ ((HG.out.alloc _).alloc _)).mono ?_
  rintro x w1 ⟨rfl, hb⟩
  have hB1 : Blk w1 w.heap.size 24 (cells8 d) := ((Blk.new w 24 (cells8 d)).alloc _).below hb (by simp; omega)
  have hB2 : Blk w1 (w.heap.size + 1) 24 (cells8 e) := (Blk.newAt (w.alloc (.cells (cells8 d) 24)) 24 (cells8 e) (by simp)).below hb (by simp)
  have hb1 : Below w.heap.size w w1 := (((Below.refl _ _).alloc (Nat.le_refl _) _).alloc (by simp) _).trans (hb.mono (by simp; omega))
  clear hb
  obtain ⟨Sd, hSd⟩ : ∃ Sd, hexS d = Sd := ⟨_, rfl⟩
  obtain ⟨Se, hSe⟩ : ∃ Se, hexS e = Se := ⟨_, rfl⟩
  rw [hSd] at HOK HBK HIN HXL
  rw [hSe] at HIN
  have HdS := Lib.hid hSd
  have HeS := Lib.hid hSe
  clear hSd hSe
  go_upto_region 3 with (fail)
  obtain ⟨KL, hKL⟩ : ∃ KL, KL = [kval (.agg (cells8 d)), kval (.string ⟨Sd.toArray⟩), kval (.agg (cells8 e)), kval (.string ⟨Se.toArray⟩), kval (.string ⟨Sd.toArray⟩), kval (.string ⟨Se.toArray⟩)] := ⟨_, rfl⟩
  have K0 : KL.getD 0 kany = kval (.agg (cells8 d)) := by rw [hKL]; rfl
  have K1 : KL.getD 1 kany = kval (.string ⟨Sd.toArray⟩) := by rw [hKL]; rfl
  have K2 : KL.getD 2 kany = kval (.agg (cells8 e)) := by rw [hKL]; rfl
  have K3 : KL.getD 3 kany = kval (.string ⟨Se.toArray⟩) := by rw [hKL]; rfl
  have K4 : KL.getD 4 kany = kval (.string ⟨Sd.toArray⟩) := by rw [hKL]; rfl
  have K5 : KL.getD 5 kany = kval (.string ⟨Se.toArray⟩) := by rw [hKL]; rfl
  clear hKL
  refine wp_region_kd 41 (by kernel_rfl) (by kernel_rfl) (by kernel_rfl) rfl KL ?_ ?_
  · refine ⟨?_, ?_, ?_, ?_, ?_, ?_, trivial⟩
    · refine asks_mk fun a W hS hh hd => ⟨wanted_yes rfl, ?_⟩
      have e0 := hh 2 _ rfl rfl
      have E0 := eval_tmp e0
      exact giv_loadB hS 24 (.tmp 2) rfl w.heap.size E0 hB1 Tryd.underlying24 rfl sz32d HD8.out K0
    · refine asks_mk fun a W hS hh hd => ⟨wanted_yes rfl, ?_⟩
      have e0 := hd.val (j := 0) (s := 11) (by kernel_rfl) K0
      have E0 := eval_tmp e0
      refine giv_call (f := 15) (args := #[(.agg (cells8 d))]) ?_ ?_ K1
      · go_simp
      · exact HdS.out ▸ hex_any d W HdL.out
    · refine asks_mk fun a W hS hh hd => ⟨wanted_yes rfl, ?_⟩
      have e0 := hh 3 _ rfl rfl
      have E0 := eval_tmp e0
      exact giv_loadB hS 24 (.tmp 3) rfl (w.heap.size + 1) E0 hB2 Tryd.underlying24 rfl sz32d HE8.out K2
    · refine asks_mk fun a W hS hh hd => ⟨wanted_yes rfl, ?_⟩
      have e0 := hd.val (j := 2) (s := 13) (by kernel_rfl) K2
      have E0 := eval_tmp e0
      refine giv_call (f := 15) (args := #[(.agg (cells8 e))]) ?_ ?_ K3
      · go_simp
      · exact HeS.out ▸ hex_any e W HeL.out
    · refine asks_mk fun a W hS hh hd => ⟨wanted_yes rfl, ?_⟩
      have e0 := hd.val (j := 1) (s := 12) (by kernel_rfl) K1
      have E0 := eval_tmp e0
      exact giv_assign rfl E0 K4
    · refine asks_mk fun a W hS hh hd => ⟨wanted_yes rfl, ?_⟩
      have e0 := hd.val (j := 3) (s := 14) (by kernel_rfl) K3
      have E0 := eval_tmp e0
      exact giv_assign rfl E0 K5
  · intro a W hS hK
    have e0 := hK.val (i := 0) (s := 11) (by kernel_rfl) K0
    have e1 := hK.val (i := 1) (s := 12) (by kernel_rfl) K1
    have e2 := hK.val (i := 2) (s := 13) (by kernel_rfl) K2
    have e3 := hK.val (i := 3) (s := 14) (by kernel_rfl) K3
    have e4 := hK.val (i := 4) (s := 5) (by kernel_rfl) K4
    have e5 := hK.val (i := 5) (s := 6) (by kernel_rfl) K5
    have hfr := hK.frame [(.agg (cells8 d)), (.string ⟨Sd.toArray⟩), (.agg (cells8 e)), (.string ⟨Se.toArray⟩), (.string ⟨Sd.toArray⟩), (.string ⟨Se.toArray⟩)] ⟨e0, e1, e2, e3, e4, e5, trivial⟩
    have hB3 := hB1.below hS hB1.lt
    have hB4 := hB2.below hS hB2.lt
    have hb2 := hb1.trans (hS.mono hb1.size)
    clear K0 e0 K1 e1 K2 e2 K3 e3 K4 e4 K5 e5 hK hS hB1 hB2 hb1
    subst hfr
    simp only [putAll, Act.put]
    go_wp2_with fail
    refine (of_any Sd _ HXL.out).mono ?_
    rintro x w3 ⟨rfl, hb3⟩
    rw [HOK.out, HBK.out]
    have hB5 := hB3.below hb3 hB3.lt
    have hB6 := hB4.below hb3 hB4.lt
    have hb4 := hb2.trans (hb3.mono hb2.size)
    clear hB3 hB4 hb2 hb3
    go_upto_region 5 with (refine wpList_storeNew (c := cells8 (List.replicate 32 0)) rfl 24 (.tmp 7) (.tmp 18) rfl w3 w3.heap.size rfl rfl (cells8 d) rfl rfl sz32d HD8.out HZ.out (cells8_one _) ?_)
    have hB7 : Blk (w3.alloc (.cells (cells8 d) 24)) w3.heap.size 24 (cells8 d) := Blk.new _ _ _
    have hB8 := hB5.alloc (.cells (cells8 d) 24)
    have hB9 := hB6.alloc (.cells (cells8 d) 24)
    have hb5 := hb4.alloc hb4.size (.cells (cells8 d) 24)
    clear hB5 hB6 hb4
    generalize w3.alloc (.cells (cells8 d) 24) = w4 at *
    generalize w3.heap.size = g at *
    go_wp2_with (refine wpList_loadBw (cs := cells8 d) rfl 24 (.tmp 2) rfl w.heap.size rfl hB8 Tryd.underlying24 rfl sz32d HD8.out ?_)
    refine (HdS.out ▸ rhex_any d _ HdL.out).mono ?_
    rintro x w5 ⟨rfl, hb6⟩
    have hC7 := hB7.below hb6 hB7.lt
    have hC8 := hB8.below hb6 hB8.lt
    have hC9 := hB9.below hb6 hB9.lt
    have hb7 := hb5.trans (hb6.mono hb5.size)
    clear hB7 hB8 hB9 hb5 hb6
    have hin : (Sd == Se) = (d == e) := HIN.out
    generalize (d == e) = b at *
    go_wp2_with (first | (refine wpList_loadBw (cs := cells8 d) rfl 24 (.tmp 7) rfl g rfl hC7 Tryd.underlying24 rfl sz32d HD8.out ?_) | (refine wpList_loadBw (cs := cells8 d) rfl 24 (.tmp 2) rfl w.heap.size rfl hC8 Tryd.underlying24 rfl sz32d HD8.out ?_) | (refine wpList_loadBw (cs := cells8 e) rfl 24 (.tmp 3) rfl (w.heap.size + 1) rfl hC9 Tryd.underlying24 rfl sz32d HE8.out ?_) | (refine wpList_eqlA (xs := cells8 d) (ys := cells8 d) (b := true) rfl 24 24 (.tmp 28) (.tmp 29) rfl rfl rfl (by kernel_rfl) HDD.out ?_) | (refine wpList_eqlA (xs := cells8 d) (ys := cells8 e) (b := b) rfl 24 24 (.tmp 36) (.tmp 37) rfl rfl rfl (by kernel_rfl) HDE.out ?_))
    go_ret
    exact ⟨rfl, hb7⟩
end Go.Proofs.YthimejahpgihkaaDoor
