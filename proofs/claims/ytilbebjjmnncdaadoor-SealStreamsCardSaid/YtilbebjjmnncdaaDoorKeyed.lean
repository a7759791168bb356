/- The walk of hash.Keyed: the digest of parts under a key. -/
import Derived.Test.YtilbebjjmnncdaaDoorStrs
namespace Go.Proofs.YtilbebjjmnncdaaDoor
open Go.RowKit

theorem sz32k : (Tryd.prog.info? 23).map (·.size) = some 32 := by kernel_rfl
theorem key_splice {k : List UInt8} (hk : k.length = 32) (h : List Wd) (hh : h.length = 8) :
    (splice (stCells h (List.replicate 64 0) 0 0).toList 8 (k.map cb)).toArray = stCells h (k ++ List.replicate 32 0) 0 0 := by
  have e := st_splice (fill := 0) (taken := 0) hh (by simp : (List.replicate 64 (0 : UInt8)).length = 64) 0 k (by omega)
  rw [List.take_zero, List.nil_append, Nat.zero_add, Nat.add_zero, hk] at e
  unfold splice
  rw [List.length_map, hk, ← List.append_assoc, e]
  rfl
set_option maxRecDepth 100000 in
set_option maxHeartbeats 1000000 in
theorem keyed_any (k : List UInt8) (l : List (List UInt8)) (v : Value) (w : World) (hk : k.length = 32) (hG : Glob w) (hS : Strs w v l) (hl : l.flatten.length < 2 ^ 60) (hn : l.length < 2 ^ 60) :
    Calls Tryd.prog 19 #[.agg (cells8 k), v] w fun e w' => e = .returned (.agg (cells8 (keyedS k l.flatten))) ∧ Below w.heap.size w w' := by
  obtain ⟨a, c, rfl⟩ := hS.len
  have HS := Lib.hid hS
  have HG := Lib.hid hG
  have HK := Lib.hid hk
  clear hS hG hk
  go_enter Tryd.func19, Tryd.ntmps19
  go_upto_region 1 with (fail)
  change Code.wp _ _ _ _ ((w.alloc (.cells (cells8 k) 23)).alloc (.cells (cells8 (List.replicate 32 0)) 37))
  have hR : Blk ((w.alloc (.cells (cells8 k) 23)).alloc (.cells (cells8 (List.replicate 32 0)) 37)) (w.heap.size + 1) 37 (cells8 (List.replicate 32 0)) := Blk.newAt _ _ _ (by simp)
  have hY : Blk ((w.alloc (.cells (cells8 k) 23)).alloc (.cells (cells8 (List.replicate 32 0)) 37)) w.heap.size 23 (cells8 k) := (Blk.new _ _ _).alloc _
  have hb : Below w.heap.size w ((w.alloc (.cells (cells8 k) 23)).alloc (.cells (cells8 (List.replicate 32 0)) 37)) := ((Below.refl _ _).alloc (Nat.le_refl _) _).alloc (by simp) _
  have hG1 := (HG.out.alloc (.cells (cells8 k) 23)).alloc (.cells (cells8 (List.replicate 32 0)) 37)
  generalize (w.alloc (.cells (cells8 k) 23)).alloc (.cells (cells8 (List.replicate 32 0)) 37) = w1 at *
  have HG1 := Lib.hid hG1
  clear hG1
  have hz := zeroSt
  obtain ⟨cs, hcs⟩ : ∃ cs, stCells (List.replicate 8 0) (List.replicate 64 0) 0 0 = cs := ⟨_, rfl⟩
  rw [hcs] at hz
  have HCSZ : Hid (cs.size = 74) := Lib.hid (by rw [← hcs]; exact st_size rfl rfl)
  clear hcs
  go_wp2_with fail
  refine (begin_any true _ HG1.out).mono ?_
  rintro e w2 ⟨rfl, hb2⟩
  have HSS : Hid ((stCells (h0Of true) (List.replicate 64 0) 0 0).size = 74) := Lib.hid (st_size rfl (by simp))
  have HON : Hid ((stCells (h0Of true) (List.replicate 64 0) 0 0).all (·.oneCell') = true) := Lib.hid st_one
  obtain ⟨S, hS⟩ : ∃ S, stCells (h0Of true) (List.replicate 64 0) 0 0 = S := ⟨_, rfl⟩
  rw [hS] at HSS HON
  have HSE := Lib.hid hS
  rw [hS]
  clear hS
  go_upto_region 2 with (refine wpList_storeNew rfl 66 (.tmp 5) (.tmp 8) rfl w2 w2.heap.size rfl rfl S rfl rfl sz74 HSS.out HCSZ.out HON.out ?_)
  have hg0 : w.heap.size + 1 < w2.heap.size := Nat.lt_of_lt_of_le hR.lt hb2.size
  have hB : Blk (w2.alloc (.cells S 66)) w2.heap.size 66 S := Blk.new _ _ _
  have hR3 : Blk (w2.alloc (.cells S 66)) (w.heap.size + 1) 37 (cells8 (List.replicate 32 0)) := (hR.below hb2 hR.lt).alloc _
  have hY3 : Blk (w2.alloc (.cells S 66)) w.heap.size 23 (cells8 k) := (hY.below hb2 hY.lt).alloc _
  have hb3 : Below w.heap.size w (w2.alloc (.cells S 66)) := (hb.trans (hb2.mono hb.size)).alloc (by omega) _
  have hG3 : Glob (w2.alloc (.cells S 66)) := (HG1.out.below hb2).alloc _
  generalize w2.alloc (.cells S 66) = w3 at *
  generalize w2.heap.size = g at *
  clear hR hb hb2 hz HCSZ HSS HON HG1 hY
  have hsl := run_sliceArr_all Tryd.underlying63 so8 g 8 (by omega)
  have hsk := run_sliceArr_all Tryd.underlying23 so8 w.heap.size 0 (by omega)
  simp only [Act.put]
  refine wp_region_still_tail 3 (by kernel_rfl) (by kernel_rfl) ?_
  simp only [List.take_succ_cons, List.take_zero, List.drop_succ_cons, List.drop_zero]
  change wpStill _ _ w3.drew _ _ _
  repeat still_step
  refine wpStill_nil ?_
  change wpList _ _ _ _ _ w3.drew
  refine wpList_copy_splice rfl (.tmp 10) (.tmp 11) 33 33 rfl 5 Tryd.underlying33 sz1b _ _ 64 64 32 32 rfl rfl g 8 S.toList 66 (by rw [Array.toArray_toList]; exact hB.drew) (k.map cb) (by rw [List.length_map, HK.out]; rfl) (fun _ => ⟨rfl, _, rfl, fun j v hv => ?_⟩) ?_ ?_ (w.heap.size + 2) w3 (Below.refl _ _).drew (by omega) ?_
  · have hj : j < k.length := by simpa using (List.getElem?_eq_some_iff.1 hv).1
    rw [addr_add, Nat.zero_add, hY3.drew.cell, ← hv]
    simp [cells8]
  · rw [List.length_map, HK.out, ← HSE.out, Array.length_toList, st_size rfl (by simp)]; omega
  · intro x hx
    simp only [List.mem_map] at hx
    obtain ⟨y, _, rfl⟩ := hx
    rfl
  rintro w4 hB4 hb4
  rw [← HSE.out, key_splice HK.out _ rfl] at hB4
  have hB4' : Blk w4 g 66 (stCells (h0Of true) (k ++ List.replicate 32 0) 0 0) := hB4.out
  have hR4 := hR3.below hb4 (by omega)
  clear hB4 hR3 hY3 hB hsl hsk
  have c4 := st_fill hB4' rfl (by simp [HK.out])
  have f4 := hB4'.frozen 72
  have HB4 := Lib.hid hb4
  have HB0 := Lib.hid hb3
  clear hb3 hb4
  go_upto_region 4 with (fail)
  have hB5 := hB4'.set_ 72 (.int .i64 64)
  rw [st_setFill rfl (by simp [HK.out])] at hB5
  have hA := key_post rfl HK.out hB5
  have HG3 : Hid (Glob (w4.setCell ⟨g, 72, none⟩ (.int .i64 64))) := Lib.hid ((hG3.keep (HB4.out.block 0 (by omega)) (HB4.out.block 1 (by have := HG.out.two; omega))).setCell (by have := HG.out.two; dsimp only; omega) _)
  have HB3 : Hid (Below w.heap.size w (w4.setCell ⟨g, 72, none⟩ (.int .i64 64))) := Lib.hid ((HB0.out.trans (HB4.out.mono (by omega))).setCell (by dsimp only; omega) _)
  have HR3 := Lib.hid (hR4.far (p := ⟨g, 72, none⟩) (by dsimp only; omega) (.int .i64 64))
  have hg3 := hB5.lt
  clear c4 f4 hB4' hB5 hR4 hG3 HB4 HB0 HSE
  generalize w4.setCell ⟨g, 72, none⟩ (.int .i64 64) = w5 at *
  have HG2 : Hid (2 ≤ g) := Lib.hid (by have := HG.out.two; omega)
  have HPL : Hid ((k ++ List.replicate 32 0).length = 64) := Lib.hid (by simp [HK.out])
  obtain ⟨P, hP⟩ : ∃ P, k ++ List.replicate 32 0 = P := ⟨_, rfl⟩
  rw [hP] at hA HPL
  have HP := Lib.hid hP
  clear hP
  go_wp2_with fail
  go_loopw [7, 16] (fun _ i wr => ∃ j : Nat, j ≤ l.length ∧ i = .int .i64 j ∧ AddPost (h0Of true) (P ++ joinTo l j) g w5 wr) (fun _ i _ => l.length - (intOf i).toNat)
  case atStart => exact ⟨0, by omega, rfl, by simpa [joinTo] using hA⟩
  case round =>
    clear hA
    obtain ⟨j, hk, rfl, hA⟩ := hrel
    have HA := Lib.hid hA
    clear hA
    by_cases hlt : j < l.length
    · have hlt' : (j : Int) < l.length := by omega
      rcases HS.out.grown HB3.out HA.out.gr (by omega) with ⟨_, h2⟩ | ⟨b, o, c', h1, h2, h3⟩
      · subst h2; simp at hlt
      · injection h1 with h1a _ h1c
        subst h1a h1c
        have hc := h3 j hlt
        clear h3
        have hj := joinTo_le l j
        have hj2 := joinTo_le l (j + 1)
        have HJ := Lib.hid (joinTo_succ l j hlt)
        rw [← HJ.out, List.length_append] at hj2
        generalize l.getD j [] = s at *
        unfold tx at hc
        go_wp2_with fail
        refine (add_any g (h0Of true) (P ++ joinTo l j) s wr (HG3.out.grown HA.out.gr HG2.out) HG2.out HA.out.here (by rw [List.length_append, HPL.out]; omega)).mono ?_
        rintro e w6 ⟨rfl, hA4⟩
        have HA4 := Lib.hid (HA.out.join hA4)
        rw [List.append_assoc, HJ.out] at HA4
        clear hA4
        go_wp2_with fail
        go_roundw
        case rel => exact ⟨j + 1, by omega, by go_num, HA4.out⟩
        case measure => simp [intOf]; omega
    · obtain rfl : j = l.length := by omega
      rw [joinTo_all] at HA
      go_wp2_with fail
      refine (end_any g (h0Of true) (P ++ l.flatten) wr (HG3.out.grown HA.out.gr HG2.out) HG2.out HA.out.here (by rw [List.length_append, HPL.out]; omega)).mono ?_
      rintro e w6 ⟨rfl, hg4⟩
      have hR4 := (HR3.out.grown HA.out.gr (by simp; omega)).grown hg4 (by simp; omega)
      have hb4 := below_grown (below_grown HB3.out HA.out.gr (by omega) HB3.out.size) hg4 (by omega) (Nat.le_trans HB3.out.size HA.out.gr.size)
      have HL : Hid ((cells8 (outD (blake (h0Of true) (P ++ l.flatten)) 32)).size = 32) := Lib.hid (by rw [cells8_size, outD_len])
      have HZ : Hid ((cells8 (List.replicate 32 0)).size = 32) := Lib.hid (by rw [cells8_size, List.length_replicate])
      have HF : Hid (outD (blake (h0Of true) (P ++ l.flatten)) 32 = keyedS k l.flatten) := Lib.hid (by rw [← HP.out]; rfl)
      obtain ⟨D, hD⟩ : ∃ D, outD (blake (h0Of true) (P ++ l.flatten)) 32 = D := ⟨_, rfl⟩
      rw [hD] at HL HF
      rw [hD]
      clear hD
      go_wp2_with (refine wpList_storeB rfl 37 (.tmp 4) (.tmp 23) rfl (w.heap.size + 1) (cells8 D) rfl rfl hR4 sz32d HL.out HZ.out (cells8_one _) ?_)
      refine bodyPost_ret (results_B rfl _ (g := w.heap.size + 1) rfl (hR4.row _) Tryd.underlying37 rfl sz32d HL.out) rfl ⟨by rw [HF.out], below_row hb4 (by omega) _⟩
end Go.Proofs.YtilbebjjmnncdaaDoor
