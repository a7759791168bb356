/- The walk of the reference's Nonce. -/
import Derived.Test.YtilbebjjmnncdaaDoorSealNonce
import Derived.Test.YtilbebjjmnncdaaDoorText
namespace Go.Proofs.YtilbebjjmnncdaaDoor
open Go.RowKit

def nTo (s : List UInt8) (i : Nat) : List UInt8 := s.take i ++ List.replicate (12 - i) 0
theorem nTo_len (s : List UInt8) (i : Nat) (h : i ≤ 12) (hs : i ≤ s.length) : (nTo s i).length = 12 := by
  unfold nTo; rw [List.length_append, List.length_take, List.length_replicate]; omega
theorem nTo_set (s : List UInt8) (i : Nat) (h : i < 12) (hs : i < s.length) : (nTo s i).set i (bt s i) = nTo s (i + 1) := by
  unfold nTo
  rw [List.set_append_right _ _ (by rw [List.length_take]; omega), List.length_take, show i - min i s.length = 0 by omega, show 12 - i = (12 - (i + 1)) + 1 by omega, List.replicate_succ, List.set_cons_zero]
  have h2 : s.take (i + 1) = s.take i ++ [bt s i] := by rw [List.take_succ_eq_append_getElem hs]; simp [bt, hs]
  rw [h2, List.append_assoc]
  rfl
theorem nTo_end (s : List UInt8) (i : Nat) (h : i ≤ 12) (hs : i ≤ s.length) (he : i = 12 ∨ i = s.length) : nTo s i = nonceS s := by
  unfold nTo nonceS
  rcases he with rfl | rfl
  · rw [show 12 - 12 = 0 by rfl, show 12 - s.length = 0 by omega]
  · rw [List.take_of_length_le (Nat.le_refl _), List.take_of_length_le h]
attribute [local go_sem] str_byte
set_option maxRecDepth 100000 in
set_option maxHeartbeats 1000000 in
theorem rnonce_any (s : List UInt8) (w : World) (hs : s.length ≤ maxLen) :
    Calls Tryd.prog 18 #[.string ⟨s.toArray⟩] w fun e w' => e = .returned (.agg (cells8 (nonceS s))) ∧ Below w.heap.size w w' := by
  unfold maxLen at hs
  go_enter Tryd.func18, Tryd.ntmps18
  have HZ : Hid ((cells8 (List.replicate 12 0)).size = 12) := Lib.hid (by rw [cells8_size, List.length_replicate])
  go_upto_region 2 with (refine wpList_storeNew (c := cells8 (List.replicate 12 0)) rfl 24 (.tmp 3) (.tmp 5) rfl (w.alloc (.cells (cells8 (List.replicate 12 0)) 24)) (w.heap.size + 1) (by simp) rfl (cells8 (List.replicate 12 0)) rfl rfl sz12q HZ.out HZ.out (cells8_one _) ?_)
  change Code.wp _ _ _ _ ((w.alloc (.cells (cells8 (List.replicate 12 0)) 24)).alloc (.cells (cells8 (List.replicate 12 0)) 24))
  have hA : Blk ((w.alloc (.cells (cells8 (List.replicate 12 0)) 24)).alloc (.cells (cells8 (List.replicate 12 0)) 24)) w.heap.size 24 (cells8 (List.replicate 12 0)) := (Blk.new _ _ _).alloc _
  have hB : Blk ((w.alloc (.cells (cells8 (List.replicate 12 0)) 24)).alloc (.cells (cells8 (List.replicate 12 0)) 24)) (w.heap.size + 1) 24 (cells8 (nTo s 0)) := Blk.newAt _ _ _ (by simp)
  have hb : Below w.heap.size w ((w.alloc (.cells (cells8 (List.replicate 12 0)) 24)).alloc (.cells (cells8 (List.replicate 12 0)) 24)) := ((Below.refl _ _).alloc (Nat.le_refl _) _).alloc (by simp) _
  generalize (w.alloc (.cells (cells8 (List.replicate 12 0)) 24)).alloc (.cells (cells8 (List.replicate 12 0)) 24) = w1 at *
  have HA := Lib.hid hA
  have HB := Lib.hid hB
  have HBW := Lib.hid hb
  clear hA hB hb
  simp only [Act.put]
  go_wp2_with fail
  go_loopw [4] (fun v wr => ∃ i : Nat, i ≤ 12 ∧ i ≤ s.length ∧ v = .int .i64 i ∧ Blk wr (w.heap.size + 1) 24 (cells8 (nTo s i)) ∧ Blk wr w.heap.size 24 (cells8 (List.replicate 12 0)) ∧ Below w.heap.size w wr) (fun v _ => 12 - (intOf v).toNat)
  case atStart => exact ⟨0, by omega, by omega, rfl, HB.out, HA.out, HBW.out⟩
  case round =>
    clear HA HB HBW
    obtain ⟨i, hi, his, rfl, hB, hA, hb⟩ := hrel
    have HA := Lib.hid hA
    have HB := Lib.hid hB
    have HBW := Lib.hid hb
    clear hA hb
    by_cases hlt : i < 12 ∧ i < s.length
    · obtain ⟨h1, h2⟩ := hlt
      have h1' : (i : Int) < 12 := by omega
      have h2' : (i : Int) < s.length := by omega
      have HST := Lib.hid (nTo_set s i h1 h2)
      have hc := (hB.cell i).trans (cells8_get _ i (by rw [nTo_len s i hi his]; exact h1))
      have hf := hB.frozen i
      generalize bt (nTo s i) i = y at *
      clear hB
      go_wp2_with fail
      have hB2 := HB.out.set_ i (.int .u8 ((bt s i).toNat : Int))
      rw [cells8_set, HST.out] at hB2
      have HB2 := Lib.hid hB2
      have HA2 := Lib.hid (HA.out.far (p := ⟨w.heap.size + 1, i, none⟩) (by dsimp only; omega) (.int .u8 ((bt s i).toNat : Int)))
      have HBW2 := Lib.hid (HBW.out.setCell (p := ⟨w.heap.size + 1, i, none⟩) (by dsimp only; omega) (.int .u8 ((bt s i).toNat : Int)))
      clear hB2
      go_roundw
      case rel => exact ⟨i + 1, by omega, by omega, by go_num, HB2.out, HA2.out, HBW2.out⟩
      case measure => simp [intOf]; omega
    · have he : i = 12 ∨ i = s.length := by omega
      rw [nTo_end s i hi his he] at HB
      clear hB
      have HS : Hid ((cells8 (nonceS s)).size = 12) := Lib.hid (by rw [cells8_size, nonceS_len])
      obtain ⟨D, hD⟩ : ∃ D, nonceS s = D := ⟨_, rfl⟩
      rw [hD] at HB HS
      have HD := Lib.hid hD
      clear hD
      have hcase : (i : Int) < 12 ∧ ¬ (i : Int) < s.length ∨ ¬ (i : Int) < 12 := by omega
      rcases hcase with ⟨h1, h2⟩ | h1
      all_goals go_wp2_with (first | refine wpList_loadB (cs := cells8 D) rfl 24 (.tmp 3) rfl (w.heap.size + 1) rfl HB.out Tryd.underlying24 rfl sz12q HS.out ?_ | refine wpList_storeB rfl 24 (.tmp 2) (.tmp 21) rfl w.heap.size (cells8 D) rfl rfl HA.out sz12q HS.out HZ.out (cells8_one _) ?_)
      all_goals refine bodyPost_ret (results_B rfl _ (g := w.heap.size) rfl (HA.out.row _) Tryd.underlying24 rfl sz12q HS.out) rfl ⟨by rw [HD.out], below_row HBW.out (Nat.le_refl _) _⟩
end Go.Proofs.YtilbebjjmnncdaaDoor
