/- The walks of the reference's Sum, One and Keyed (layer 2). -/
import Derived.Test.YthimejahpgihkaaDoorRsum
import Derived.Test.YthimejahpgihkaaDoorKeyed
import Derived.Test.YthimejahpgihkaaDoorGive
namespace Go.Proofs.YthimejahpgihkaaDoor
open Go.RowKit

set_option maxRecDepth 100000 in
set_option maxHeartbeats 1000000 in
theorem rsum_any (l : List (List UInt8)) (v : Value) (w : World) (hS : Strs w v l) (hl : l.flatten.length < 2 ^ 46) (hn : l.length < 2 ^ 60) :
    Calls Tryd.prog 22 #[v] w fun e w' => e = .returned (.agg (cells8 (sumS l.flatten))) ∧ Below w.heap.size w w' := by
  have HS := Lib.hid hS
  clear hS
  go_enter Tryd.func22, Tryd.ntmps22
  go_upto_region 1 with (fail)
  change Code.wp _ _ _ _ (w.alloc (.cells (cells8 (List.replicate 32 0)) 24))
  have hR : Blk (w.alloc (.cells (cells8 (List.replicate 32 0)) 24)) w.heap.size 24 (cells8 (List.replicate 32 0)) := Blk.new _ _ _
  have hb : Below w.heap.size w (w.alloc (.cells (cells8 (List.replicate 32 0)) 24)) := (Below.refl _ _).alloc (Nat.le_refl _) _
  generalize w.alloc (.cells (cells8 (List.replicate 32 0)) 24) = w1 at *
  go_wp2_with fail
  refine (eight_any _).mono ?_
  rintro e w2 ⟨rfl, hb2⟩
  obtain ⟨E, hE⟩ : ∃ E, eightV = E := ⟨_, rfl⟩
  have HES : Hid ((cells E).size = 8) := Lib.hid (by rw [← hE]; rfl)
  have HEL : Hid (E.length = 8) := Lib.hid (by rw [← hE]; rfl)
  rw [hE]
  have HE := Lib.hid hE
  clear hE
  go_upto_region 2 with (refine wpList_storeNew rfl 42 (.tmp 3) (.tmp 4) rfl w2 w2.heap.size rfl rfl (cells E) rfl rfl sz8 HES.out rfl (cells_one _) ?_)
  simp only [Act.put]
  have hg0 : w.heap.size < w2.heap.size := Nat.lt_of_lt_of_le hR.lt hb2.size
  have hF : Blk (w2.alloc (.cells (cells E) 42)) w2.heap.size 42 (cells E) := Blk.new _ _ _
  have hR3 : Blk (w2.alloc (.cells (cells E) 42)) w.heap.size 24 (cells8 (List.replicate 32 0)) := (hR.below hb2 hR.lt).alloc _
  have hb3 : Below w.heap.size w (w2.alloc (.cells (cells E) 42)) := (hb.trans (hb2.mono hb.size)).alloc (by omega) _
  generalize w2.alloc (.cells (cells E) 42) = w3 at *
  generalize w2.heap.size = g at *
  clear hR hb hb2
  have c0 := (hF.cell 0).trans (cells_get E 0 (by have := HEL.out; omega))
  have f0 := hF.frozen 0
  go_upto_region 3 with (fail)
  rw [show (16842784 : Int) = nm 16842784#32 from rfl, nm_xor]
  have hF4 := hF.set_ 0 (.int .u32 (nm (gt E 0 ^^^ 16842784#32)))
  rw [cells_set] at hF4
  have hR4 := hR3.far (p := ⟨g, 0, none⟩) (by dsimp only; omega) (.int .u32 (nm (gt E 0 ^^^ 16842784#32)))
  have hb4 := hb3.setCell (p := ⟨g, 0, none⟩) (by dsimp only; omega) (.int .u32 (nm (gt E 0 ^^^ 16842784#32)))
  have HU : Hid (E.set 0 (gt E 0 ^^^ 16842784#32) = h0U) := Lib.hid (by rw [← HE.out]; rfl)
  rw [HU.out] at hF4
  generalize w3.setCell ⟨g, 0, none⟩ (.int .u32 (nm (gt E 0 ^^^ 16842784#32))) = w4 at *
  clear c0 f0 hF hR3 hb3
  have HHS : Hid ((cells h0U).size = 8) := Lib.hid rfl
  have HHL : Hid (h0U.length = 8) := Lib.hid rfl
  have HSE : Hid (sumS l.flatten = outD (blake h0U l.flatten) 32) := Lib.hid rfl
  generalize h0U = U at *
  have HS4 := Lib.hid ((HS.out.below hb4).below ((Below.refl _ _).drew))
  have HF4 := Lib.hid hF4
  have HB4 := Lib.hid hb4
  clear hF4 hb4
  refine wp_region_still_tail 3 (by kernel_rfl) (by kernel_rfl) ?_
  simp only [List.take_succ_cons, List.take_zero, List.drop_succ_cons, List.drop_zero]
  change wpStill _ _ w4.drew _ _ _
  refine wpStill_loadB rfl 42 (.tmp 3) rfl g rfl HF4.out.drew Tryd.underlying42 rfl sz8 HHS.out (fun K hK => ?_); go_simp; refine hK _ ?_; clear hK K
  repeat still_step
  still_call (joined_any l v _ HS4.out hl hn)
  refine wpStill_nil ?_
  change wpList _ _ _ _ _ w4.drew
  have HR4 := Lib.hid hR4.drew
  have HB5 := Lib.hid HB4.out.drew
  clear hR4 HF4 HB4 HS4
  generalize w4.drew = w5 at *
  go_wp2_with fail
  refine (digest_any U l.flatten _ HHL.out hl).mono ?_
  rintro e w6 ⟨rfl, hb6⟩
  rw [← HSE.out]
  have hR6 := HR4.out.below hb6 HR4.out.lt
  have hb7 := HB5.out.trans (hb6.mono HB5.out.size)
  have HL : Hid ((cells8 (sumS l.flatten)).size = 32) := Lib.hid (by rw [cells8_size, sumS_len])
  have HZ : Hid ((cells8 (List.replicate 32 0)).size = 32) := Lib.hid (by rw [cells8_size, List.length_replicate])
  obtain ⟨D, hD⟩ : ∃ D, sumS l.flatten = D := ⟨_, rfl⟩
  rw [hD] at HL ⊢
  have HD := Lib.hid hD
  clear hD HSE
  go_wp2_with (refine wpList_storeB rfl 24 (.tmp 2) (.tmp 12) rfl w.heap.size (cells8 D) rfl rfl hR6 sz32d HL.out HZ.out (cells8_one _) ?_)
  refine bodyPost_ret (results_B rfl _ (g := w.heap.size) rfl (hR6.row _) Tryd.underlying24 rfl sz32d HL.out) rfl ⟨by rw [HD.out], below_row hb7 (Nat.le_refl _) _⟩

set_option maxRecDepth 100000 in
set_option maxHeartbeats 1000000 in
theorem one_any (s : List UInt8) (w : World) (hs : s.length < 2 ^ 46) :
    Calls Tryd.prog 11 #[.string ⟨s.toArray⟩] w fun e w' => e = .returned (.agg (cells8 (sumS s))) ∧ Below w.heap.size w w' := by
  go_enter Tryd.func11, Tryd.ntmps11
  go_upto_region 1 with (fail)
  change Code.wp _ _ _ _ (w.alloc (.cells (cells8 (List.replicate 32 0)) 24))
  have hR : Blk (w.alloc (.cells (cells8 (List.replicate 32 0)) 24)) w.heap.size 24 (cells8 (List.replicate 32 0)) := Blk.new _ _ _
  have hb : Below w.heap.size w (w.alloc (.cells (cells8 (List.replicate 32 0)) 24)) := (Below.refl _ _).alloc (Nat.le_refl _) _
  generalize w.alloc (.cells (cells8 (List.replicate 32 0)) 24) = w1 at *
  go_wp2_with fail
  have hS := Strs.new w1 [s] 9 1 #[.string ⟨s.toArray⟩] rfl
  have hf : [s].flatten = s := by simp
  refine (rsum_any [s] _ _ hS (by rw [hf]; exact hs) (by simp)).mono ?_
  rintro e w2 ⟨rfl, hb2⟩
  rw [hf]
  have hR2 := (hR.alloc _).below hb2 (hR.alloc _).lt
  have hb3 := (hb.alloc hb.size _).trans (hb2.mono (hb.alloc hb.size _).size)
  have HL : Hid ((cells8 (sumS s)).size = 32) := Lib.hid (by rw [cells8_size, sumS_len])
  have HZ : Hid ((cells8 (List.replicate 32 0)).size = 32) := Lib.hid (by rw [cells8_size, List.length_replicate])
  clear hf hS
  obtain ⟨D, hD⟩ : ∃ D, sumS s = D := ⟨_, rfl⟩
  rw [hD] at HL ⊢
  have HD := Lib.hid hD
  clear hD
  go_wp2_with (refine wpList_storeB rfl 24 (.tmp 2) (.tmp 5) rfl w.heap.size (cells8 D) rfl rfl hR2 sz32d HL.out HZ.out (cells8_one _) ?_)
  refine bodyPost_ret (results_B rfl _ (g := w.heap.size) rfl (hR2.row _) Tryd.underlying24 rfl sz32d HL.out) rfl ⟨by rw [HD.out], below_row hb3 (Nat.le_refl _) _⟩

/-- bytes in a block, as a text. -/
theorem conv_blk (w : World) (g off n cap : Nat) (l : List UInt8) (hn : l.length = n) (hB : ∀ j, j < n → w.cell? ⟨g, off + j, none⟩ = some (.int .u8 ((bt l j).toNat : Int))) :
    (convert 51 9 (.slice (some ⟨g, off, none⟩) n cap)).run Tryd.prog w = .ok (.string ⟨l.toArray⟩) w := by
  subst hn
  refine run_convert_bytes_back w _ _ 5 ⟨g, off, none⟩ cap l Tryd.underlying51 Tryd.underlying5 Tryd.underlying9 (fun j hj => ?_)
  rw [addr_add, hB j hj]
  simp [bt, hj]
theorem bt_zeros (n j : Nat) : bt (List.replicate n 0) j = 0 := by
  unfold bt; rw [List.getD_eq_getElem?_getD, List.getElem?_replicate]; split <;> rfl
/-- a key's first i bytes, ahead of noughts. -/
def keyTo (k : List UInt8) : Nat → List UInt8
  | 0 => List.replicate 64 0
  | i + 1 => (keyTo k i).set i (bt k i)
theorem keyTo_len (k : List UInt8) (i : Nat) : (keyTo k i).length = 64 := by
  induction i with
  | zero => simp [keyTo]
  | succ i ih => simp [keyTo, ih]
theorem keyTo_at (k : List UInt8) (i j : Nat) (hi : i ≤ 64) : bt (keyTo k i) j = if j < i then bt k j else 0 := by
  induction i with
  | zero => rw [keyTo, bt_zeros, if_neg (by omega)]
  | succ i ih =>
    rw [keyTo, bt_set _ _ _ _ (by rw [keyTo_len]; omega), ih (by omega)]
    by_cases h : i = j
    · subst h; simp
    · rw [if_neg h]
      by_cases h2 : j < i
      · rw [if_pos h2, if_pos (by omega)]
      · rw [if_neg h2, if_neg (by omega)]
theorem keyTo_32 (k : List UInt8) (hk : k.length = 32) : keyTo k 32 = k ++ List.replicate 32 0 := by
  apply ext_bt
  · rw [keyTo_len]; simp [hk]
  · intro i hi
    rw [keyTo_len] at hi
    rw [keyTo_at k 32 i (by omega)]
    split
    · rename_i h; simp [bt, hk, h, List.getElem?_append]
    · rename_i h
      have e : bt (k ++ List.replicate 32 0) i = bt (List.replicate 32 0) (i - 32) := by
        unfold bt; rw [List.getD_eq_getElem?_getD, List.getD_eq_getElem?_getD, List.getElem?_append_right (by omega), hk]
      rw [e, bt_zeros]

attribute [local go_sem] str_app
set_option maxRecDepth 100000 in
set_option maxHeartbeats 1000000 in
theorem rkeyed_any (k : List UInt8) (l : List (List UInt8)) (v : Value) (w : World) (hk : k.length = 32) (hS : Strs w v l) (hl : l.flatten.length < 2 ^ 45) (hn : l.length < 2 ^ 60) :
    Calls Tryd.prog 13 #[.agg (cells8 k), v] w fun e w' => e = .returned (.agg (cells8 (keyedS k l.flatten))) ∧ Below w.heap.size w w' := by
  have HS := Lib.hid hS
  have HK := Lib.hid hk
  have HJ : Hid (∀ w, Strs w v l → Calls Tryd.prog 25 #[v] w fun e w' => e = .returned (.string ⟨l.flatten.toArray⟩) ∧ w' = w) := Lib.hid (fun w h => joined_any l v w h (by omega) hn)
  clear hS hk
  generalize l.flatten = F at *
  go_enter Tryd.func13, Tryd.ntmps13
  go_upto_region 1 with (fail)
  change Code.wp _ _ _ _ ((w.alloc (.cells (cells8 k) 28)).alloc (.cells (cells8 (List.replicate 32 0)) 24))
  have hY : Blk ((w.alloc (.cells (cells8 k) 28)).alloc (.cells (cells8 (List.replicate 32 0)) 24)) w.heap.size 28 (cells8 k) := (Blk.new _ _ _).alloc _
  have hR : Blk ((w.alloc (.cells (cells8 k) 28)).alloc (.cells (cells8 (List.replicate 32 0)) 24)) (w.heap.size + 1) 24 (cells8 (List.replicate 32 0)) := Blk.newAt _ _ _ (by simp)
  have hb : Below w.heap.size w ((w.alloc (.cells (cells8 k) 28)).alloc (.cells (cells8 (List.replicate 32 0)) 24)) := ((Below.refl _ _).alloc (Nat.le_refl _) _).alloc (by simp) _
  generalize (w.alloc (.cells (cells8 k) 28)).alloc (.cells (cells8 (List.replicate 32 0)) 24) = w1 at *
  go_wp2_with fail
  refine (eight_any _).mono ?_
  rintro e w2 ⟨rfl, hb2⟩
  obtain ⟨E, hE⟩ : ∃ E, eightV = E := ⟨_, rfl⟩
  have HES : Hid ((cells E).size = 8) := Lib.hid (by rw [← hE]; rfl)
  have HEL : Hid (E.length = 8) := Lib.hid (by rw [← hE]; rfl)
  rw [hE]
  have HE := Lib.hid hE
  clear hE
  go_upto_region 2 with (refine wpList_storeNew rfl 42 (.tmp 5) (.tmp 8) rfl w2 w2.heap.size rfl rfl (cells E) rfl rfl sz8 HES.out rfl (cells_one _) ?_)
  simp only [Act.put]
  have hg0 : w.heap.size + 1 < w2.heap.size := Nat.lt_of_lt_of_le hR.lt hb2.size
  have hF : Blk (w2.alloc (.cells (cells E) 42)) w2.heap.size 42 (cells E) := Blk.new _ _ _
  have hR3 : Blk (w2.alloc (.cells (cells E) 42)) (w.heap.size + 1) 24 (cells8 (List.replicate 32 0)) := (hR.below hb2 hR.lt).alloc _
  have hY3 : Blk (w2.alloc (.cells (cells E) 42)) w.heap.size 28 (cells8 k) := (hY.below hb2 hY.lt).alloc _
  have hb3 : Below w.heap.size w (w2.alloc (.cells (cells E) 42)) := (hb.trans (hb2.mono hb.size)).alloc (by omega) _
  generalize w2.alloc (.cells (cells E) 42) = w3 at *
  generalize w2.heap.size = g at *
  clear hR hb hb2 hY
  have c0 := (hF.cell 0).trans (cells_get E 0 (by have := HEL.out; omega))
  have f0 := hF.frozen 0
  go_upto_region 3 with (fail)
  rw [show (16842784 : Int) = nm 16842784#32 from rfl, nm_xor, show (8192 : Int) = nm 8192#32 from rfl, nm_xor]
  have hF4 := hF.set_ 0 (.int .u32 (nm (gt E 0 ^^^ 16842784#32 ^^^ 8192#32)))
  rw [cells_set] at hF4
  have hR4 := hR3.far (p := ⟨g, 0, none⟩) (by dsimp only; omega) (.int .u32 (nm (gt E 0 ^^^ 16842784#32 ^^^ 8192#32)))
  have hY4 := hY3.far (p := ⟨g, 0, none⟩) (by dsimp only; omega) (.int .u32 (nm (gt E 0 ^^^ 16842784#32 ^^^ 8192#32)))
  have hb4 := hb3.setCell (p := ⟨g, 0, none⟩) (by dsimp only; omega) (.int .u32 (nm (gt E 0 ^^^ 16842784#32 ^^^ 8192#32)))
  have HU : Hid (E.set 0 (gt E 0 ^^^ 16842784#32 ^^^ 8192#32) = h0K) := Lib.hid (by rw [← HE.out]; rfl)
  rw [HU.out] at hF4
  generalize w3.setCell ⟨g, 0, none⟩ (.int .u32 (nm (gt E 0 ^^^ 16842784#32 ^^^ 8192#32))) = w4 at *
  clear c0 f0 hF hR3 hb3 hY3
  have HHS : Hid ((cells h0K).size = 8) := Lib.hid rfl
  have HHL : Hid (h0K.length = 8) := Lib.hid rfl
  have HSE : Hid (keyedS k F = outD (blake h0K (k ++ List.replicate 32 0 ++ F)) 32) := Lib.hid rfl
  generalize h0K = U at *
  go_wp2_with fail
  change Code.wp _ _ _ _ (w4.alloc (.cells (cells8 (keyTo k 0)) 43))
  have hK5 : Blk (w4.alloc (.cells (cells8 (keyTo k 0)) 43)) w4.heap.size 43 (cells8 (keyTo k 0)) := Blk.new _ _ _
  have hF5 := hF4.alloc (.cells (cells8 (keyTo k 0)) 43)
  have hR5 := hR4.alloc (.cells (cells8 (keyTo k 0)) 43)
  have hY5 := hY4.alloc (.cells (cells8 (keyTo k 0)) 43)
  have hb5 := hb4.alloc hb4.size (.cells (cells8 (keyTo k 0)) 43)
  have hg1 := hF4.lt
  generalize w4.alloc (.cells (cells8 (keyTo k 0)) 43) = w5 at *
  generalize w4.heap.size = p at *
  clear hF4 hR4 hY4 hb4
  go_loopw [7] (fun j wr => ∃ i : Nat, i ≤ 32 ∧ j = .int .i64 i ∧ Blk wr p 43 (cells8 (keyTo k i)) ∧ Blk wr g 42 (cells U) ∧ Blk wr (w.heap.size + 1) 24 (cells8 (List.replicate 32 0)) ∧ Blk wr w.heap.size 28 (cells8 k) ∧ Below w.heap.size w wr) (fun j _ => 32 - (intOf j).toNat)
  case atStart => exact ⟨0, by omega, rfl, hK5, hF5, hR5, hY5, hb5⟩
  case round =>
    clear hK5 hF5 hR5 hY5 hb5
    obtain ⟨i, hi, rfl, hK5, hF5, hR5, hY5, hb5⟩ := hrel
    by_cases hlt : i < 32
    · have hlt' : (i : Int) < 32 := by omega
      have ck := (hY5.cell i).trans (cells8_get k i (by have := HK.out; omega))
      have cp := (hK5.cell i).trans (cells8_get _ i (by rw [keyTo_len]; omega))
      have fp := hK5.frozen i
      have HNX : Hid (keyTo k (i + 1) = (keyTo k i).set i (bt k i)) := Lib.hid rfl
      go_wp2
      go_roundw
      case rel =>
        refine ⟨i + 1, by omega, by go_num, ?_, hF5.far (by dsimp only; omega) _, hR5.far (by dsimp only; omega) _, hY5.far (by dsimp only; omega) _, hb5.setCell (by dsimp only; omega) _⟩
        rw [HNX.out, ← cells8_set]
        exact hK5.set_ i _
      case measure => simp [intOf]; omega
    · obtain rfl : i = 32 := by omega
      rw [keyTo_32 k HK.out] at hK5
      have HPL : Hid ((k ++ List.replicate 32 0).length = 64) := Lib.hid (by simp [HK.out])
      generalize k ++ List.replicate 32 0 = Pk at *
      have HS5 := Lib.hid ((HS.out.below hb5).below ((Below.refl _ _).drew))
      have hsl := run_sliceArr_all Tryd.underlying43 so8 p 0 (by omega) wr.drew
      have hcv := conv_blk wr.drew p 0 64 64 Pk HPL.out (fun j hj => by rw [Nat.zero_add, hK5.drew.cell, cells8_get Pk j (by have := HPL.out; omega)])
      have hpl : Pk.length = 64 := HPL.out
      go_wp2_with fail
      refine wp_region_still_tail 6 (by kernel_rfl) (by kernel_rfl) ?_
      simp only [List.take_succ_cons, List.take_zero, List.drop_succ_cons, List.drop_zero]
      change wpStill _ _ wr.drew _ _ _
      refine wpStill_loadB rfl 42 (.tmp 5) rfl g rfl hF5.drew Tryd.underlying42 rfl sz8 HHS.out (fun K hK => ?_); go_simp; refine hK _ ?_; clear hK K
      repeat still_step
      have hadd : ¬ 9223372036854775807 < 64 + F.length := by omega
      still_call (HJ.out _ HS5.out)
      repeat still_step
      refine wpStill_nil ?_
      change wpList _ _ _ _ _ wr.drew
      have HR6 := Lib.hid hR5.drew
      have HB6 := Lib.hid hb5.drew
      clear hadd hcv hsl hK5 hF5 hR5 hY5 hb5 HS5 hpl
      generalize wr.drew = w6 at *
      go_wp2_with fail
      refine (digest_any U (Pk ++ F) _ HHL.out (by rw [List.length_append, HPL.out]; omega)).mono ?_
      rintro e w7 ⟨rfl, hb7⟩
      rw [← HSE.out]
      have hR7 := HR6.out.below hb7 HR6.out.lt
      have hb8 := HB6.out.trans (hb7.mono HB6.out.size)
      have HL : Hid ((cells8 (keyedS k F)).size = 32) := Lib.hid (by rw [cells8_size, keyedS_len])
      have HZ : Hid ((cells8 (List.replicate 32 0)).size = 32) := Lib.hid (by rw [cells8_size, List.length_replicate])
      obtain ⟨D, hD⟩ : ∃ D, keyedS k F = D := ⟨_, rfl⟩
      rw [hD] at HL ⊢
      have HD := Lib.hid hD
      clear hD HSE
      go_wp2_with (refine wpList_storeB rfl 24 (.tmp 4) (.tmp 29) rfl (w.heap.size + 1) (cells8 D) rfl rfl hR7 sz32d HL.out HZ.out (cells8_one _) ?_)
      refine bodyPost_ret (results_B rfl _ (g := w.heap.size + 1) rfl (hR7.row _) Tryd.underlying24 rfl sz32d HL.out) rfl ⟨by rw [HD.out], below_row hb8 (by omega) _⟩
end Go.Proofs.YthimejahpgihkaaDoor
