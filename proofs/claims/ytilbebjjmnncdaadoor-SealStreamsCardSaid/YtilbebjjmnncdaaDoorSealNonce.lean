/- The walks of seal.Nonce and of its reference. -/
import Derived.Test.YtilbebjjmnncdaaDoorAdd
import Derived.Test.YtilbebjjmnncdaaDoorXor
import Derived.Test.YtilbebjjmnncdaaDoorSealS
namespace Go.Proofs.YtilbebjjmnncdaaDoor
open Go.RowKit

theorem sz12q : (Tryd.prog.info? 24).map (·.size) = some 12 := by kernel_rfl
theorem nonce_splice (s : List UInt8) (n : Nat) (hn : n = Nat.min s.length 12) :
    ((cells8 (List.replicate 12 0)).toList.take 0 ++ (s.take n).map cb ++ (cells8 (List.replicate 12 0)).toList.drop (0 + n)).toArray = cells8 (nonceS s) := by
  have h1 : s.take n = s.take 12 := by
    subst hn
    by_cases h : s.length ≤ 12
    · rw [show Nat.min s.length 12 = s.length from Nat.min_eq_left h, List.take_of_length_le (Nat.le_refl _), List.take_of_length_le h]
    · rw [show Nat.min s.length 12 = 12 from Nat.min_eq_right (by omega)]
  have h2 : 12 - n = 12 - s.length := by subst hn; have : Nat.min s.length 12 = min s.length 12 := rfl; omega
  have h3 : ∀ l : List UInt8, cells8 l = (l.map cb).toArray := fun l => rfl
  have h4 : ((List.replicate 12 (0 : UInt8)).map cb).drop n = (List.replicate (12 - s.length) (0 : UInt8)).map cb := by rw [List.map_replicate, List.map_replicate, List.drop_replicate, h2]
  rw [h1, h3, h3]
  unfold nonceS
  rw [List.map_append, Nat.zero_add, List.take_zero, List.nil_append, ← h4]

set_option maxRecDepth 100000 in
set_option maxHeartbeats 1000000 in
theorem snonce_any (s : List UInt8) (w : World) :
    Calls Tryd.prog 17 #[.string ⟨s.toArray⟩] w fun e w' => e = .returned (.agg (cells8 (nonceS s))) ∧ Below w.heap.size w w' := by
  have hsl := run_sliceArr_all (P := Tryd.prog) Tryd.underlying24 so8 (w.heap.size + 1) 0 (by decide)
  go_enter Tryd.func17, Tryd.ntmps17
  go_upto_region 2 with (fail)
  change Code.wp _ _ _ _ ((w.alloc (.cells (cells8 (List.replicate 12 0)) 24)).alloc (.cells (cells8 (List.replicate 12 0)) 24))
  have hA : Blk ((w.alloc (.cells (cells8 (List.replicate 12 0)) 24)).alloc (.cells (cells8 (List.replicate 12 0)) 24)) w.heap.size 24 (cells8 (List.replicate 12 0)) := (Blk.new _ _ _).alloc _
  have hB : Blk ((w.alloc (.cells (cells8 (List.replicate 12 0)) 24)).alloc (.cells (cells8 (List.replicate 12 0)) 24)) (w.heap.size + 1) 24 (cells8 (List.replicate 12 0)) := Blk.newAt _ _ _ (by simp)
  have hb : Below w.heap.size w ((w.alloc (.cells (cells8 (List.replicate 12 0)) 24)).alloc (.cells (cells8 (List.replicate 12 0)) 24)) := ((Below.refl _ _).alloc (Nat.le_refl _) _).alloc (by simp) _
  generalize (w.alloc (.cells (cells8 (List.replicate 12 0)) 24)).alloc (.cells (cells8 (List.replicate 12 0)) 24) = w1 at *
  have HA := Lib.hid hA
  have HB := Lib.hid hB
  have HBW := Lib.hid hb
  have HZ : Hid ((cells8 (List.replicate 12 0)).size = 12) := Lib.hid (by rw [cells8_size, List.length_replicate])
  obtain ⟨n, hn⟩ : ∃ n, n = Nat.min s.length 12 := ⟨_, rfl⟩
  have HN := Lib.hid hn
  have HL : Hid (n ≤ 12) := Lib.hid (by rw [hn]; exact Nat.min_le_right _ _)
  have HSP := Lib.hid (nonce_splice s n hn)
  clear hn hA hB hb
  go_upto_region 3 with (refine wpList_copy_str rfl (.tmp 4) (.tmp 5) 33 9 rfl 5 Tryd.underlying33 sz1b (w.heap.size + 1) 0 12 12 s rfl rfl (cells8 (List.replicate 12 0)) 24 HB.out n HN.out (by rw [HZ.out]; have := HL.out; omega) ?_)
  rw [HSP.out]
  have HB2 := Lib.hid (HB.out.row (cells8 (nonceS s)))
  have HA2 := Lib.hid (HA.out.rowFar (g' := w.heap.size + 1) (by omega) (cells8 (nonceS s)))
  have HBW2 := Lib.hid (below_row HBW.out (Nat.le_succ _) (cells8 (nonceS s)))
  have HS : Hid ((cells8 (nonceS s)).size = 12) := Lib.hid (by rw [cells8_size, nonceS_len])
  clear HB HA HBW HSP
  generalize w1.setRow (w.heap.size + 1) (cells8 (nonceS s)) = w2 at *
  obtain ⟨D, hD⟩ : ∃ D, nonceS s = D := ⟨_, rfl⟩
  rw [hD] at HB2 HS
  have HD := Lib.hid hD
  clear hD
  go_wp2_with (first | refine wpList_loadB (cs := cells8 D) rfl 24 (.tmp 3) rfl (w.heap.size + 1) rfl HB2.out Tryd.underlying24 rfl sz12q HS.out ?_ | refine wpList_storeB rfl 24 (.tmp 2) (.tmp 7) rfl w.heap.size (cells8 D) rfl rfl HA2.out sz12q HS.out HZ.out (cells8_one _) ?_)
  refine bodyPost_ret (results_B rfl _ (g := w.heap.size) rfl (HA2.out.row _) Tryd.underlying24 rfl sz12q HS.out) rfl ⟨by rw [HD.out], below_row HBW2.out (Nat.le_refl _) _⟩
end Go.Proofs.YtilbebjjmnncdaaDoor
