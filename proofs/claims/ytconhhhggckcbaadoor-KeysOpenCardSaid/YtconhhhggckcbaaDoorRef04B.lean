/- Laws and walks that many claims share: SealRnonce, Ref04. -/
import Derived.Test.YtconhhhggckcbaaDoorSealB
import Derived.Test.YtconhhhggckcbaaDoorBaseB
import Derived.Test.YtconhhhggckcbaaDoorRef01
import Derived.Test.YtconhhhggckcbaaDoorRsumB
import Derived.Test.YtconhhhggckcbaaDoorXorB
/- The walk of the reference's Nonce. -/
namespace Go.Proofs.YtconhhhggckcbaaDoor
open Go.RowKit

def nTo (s : List UInt8) (i : Nat) : List UInt8 := s.take i ++ List.replicate (12 - i) 0
theorem nTo_len (s : List UInt8) (i : Nat) (h : i ≤ 12) (hs : i ≤ s.length) : (nTo s i).length = 12 := by
  unfold nTo; rw [List.length_append, List.length_take, List.length_replicate]; omega
theorem nTo_set (s : List UInt8) (i : Nat) (h : i < 12) (hs : i < s.length) : (nTo s i).set i (bt s i) = nTo s (i + 1) := by
  unfold nTo
  rw [List.set_append_right _ _ (by rw [List.length_take]; omega), List.length_take, show i - min i s.length = 0 by omega, show 12 - i = (12 - (i + 1)) + 1 by omega, List.replicate_succ, List.set_cons_zero]
  have h2 : s.take (i + 1) = s.take i ++ [bt s i] := by rw [List.take_succ_eq_append_getElem hs]; simp [bt, hs]
  rw [h2, List.append_assoc]
  rfl
theorem nTo_end (s : List UInt8) (i : Nat) (h : i ≤ 12) (hs : i ≤ s.length) (he : i = 12 ∨ i = s.length) : nTo s i = nonceS s := by
  unfold nTo nonceS
  rcases he with rfl | rfl
  · rw [show 12 - 12 = 0 by rfl, show 12 - s.length = 0 by omega]
  · rw [List.take_of_length_le (Nat.le_refl _), List.take_of_length_le h]
attribute [local go_sem] str_byte
set_option maxRecDepth 100000 in
set_option maxHeartbeats 1000000 in
theorem rnonce_any (s : List UInt8) (w : World) (hs : s.length ≤ maxLen) :
    Calls Tryd.prog 68 #[.string ⟨s.toArray⟩] w fun e w' => e = .returned (.agg (cells8 (nonceS s))) ∧ Below w.heap.size w w' := by
  unfold maxLen at hs
  go_enter Tryd.func68, Tryd.ntmps68
  have HZ : Hid ((cells8 (List.replicate 12 0)).size = 12) := Lib.hid (by rw [cells8_size, List.length_replicate])
  go_upto_region 2 with (refine wpList_storeNew (c := cells8 (List.replicate 12 0)) rfl 104 (.tmp 3) (.tmp 5) rfl (w.alloc (.cells (cells8 (List.replicate 12 0)) 104)) (w.heap.size + 1) (by simp) rfl (cells8 (List.replicate 12 0)) rfl rfl sz12q HZ.out HZ.out (cells8_one _) ?_)
  change Code.wp _ _ _ _ ((w.alloc (.cells (cells8 (List.replicate 12 0)) 104)).alloc (.cells (cells8 (List.replicate 12 0)) 104))
  have hA : Blk ((w.alloc (.cells (cells8 (List.replicate 12 0)) 104)).alloc (.cells (cells8 (List.replicate 12 0)) 104)) w.heap.size 104 (cells8 (List.replicate 12 0)) := (Blk.new _ _ _).alloc _
  have hB : Blk ((w.alloc (.cells (cells8 (List.replicate 12 0)) 104)).alloc (.cells (cells8 (List.replicate 12 0)) 104)) (w.heap.size + 1) 104 (cells8 (nTo s 0)) := Blk.newAt _ _ _ (by simp)
  have hb : Below w.heap.size w ((w.alloc (.cells (cells8 (List.replicate 12 0)) 104)).alloc (.cells (cells8 (List.replicate 12 0)) 104)) := ((Below.refl _ _).alloc (Nat.le_refl _) _).alloc (by simp) _
  generalize (w.alloc (.cells (cells8 (List.replicate 12 0)) 104)).alloc (.cells (cells8 (List.replicate 12 0)) 104) = w1 at *
  have HA := Lib.hid hA
  have HB := Lib.hid hB
  have HBW := Lib.hid hb
  clear hA hB hb
  simp only [Act.put]
  go_wp2_with fail
  go_loopw [4] (fun v wr => ∃ i : Nat, i ≤ 12 ∧ i ≤ s.length ∧ v = .int .i64 i ∧ Blk wr (w.heap.size + 1) 104 (cells8 (nTo s i)) ∧ Blk wr w.heap.size 104 (cells8 (List.replicate 12 0)) ∧ Below w.heap.size w wr) (fun v _ => 12 - (intOf v).toNat)
  case atStart => exact ⟨0, by omega, by omega, rfl, HB.out, HA.out, HBW.out⟩
  case round =>
    clear HA HB HBW
    obtain ⟨i, hi, his, rfl, hB, hA, hb⟩ := hrel
    have HA := Lib.hid hA
    have HB := Lib.hid hB
    have HBW := Lib.hid hb
    clear hA hb
    by_cases hlt : i < 12 ∧ i < s.length
    · obtain ⟨h1, h2⟩ := hlt
      have h1' : (i : Int) < 12 := by omega
      have h2' : (i : Int) < s.length := by omega
      have HST := Lib.hid (nTo_set s i h1 h2)
      have hc := (hB.cell i).trans (cells8_get _ i (by rw [nTo_len s i hi his]; exact h1))
      have hf := hB.frozen i
      generalize bt (nTo s i) i = y at *
      clear hB
      go_wp2_with fail
      have hB2 := HB.out.set_ i (.int .u8 ((bt s i).toNat : Int))
      rw [cells8_set, HST.out] at hB2
      have HB2 := Lib.hid hB2
      have HA2 := Lib.hid (HA.out.far (p := ⟨w.heap.size + 1, i, none⟩) (by dsimp only; omega) (.int .u8 ((bt s i).toNat : Int)))
      have HBW2 := Lib.hid (HBW.out.setCell (p := ⟨w.heap.size + 1, i, none⟩) (by dsimp only; omega) (.int .u8 ((bt s i).toNat : Int)))
      clear hB2
      go_roundw
      case rel => exact ⟨i + 1, by omega, by omega, by go_num, HB2.out, HA2.out, HBW2.out⟩
      case measure => simp [intOf]; omega
    · have he : i = 12 ∨ i = s.length := by omega
      rw [nTo_end s i hi his he] at HB
      clear hB
      have HS : Hid ((cells8 (nonceS s)).size = 12) := Lib.hid (by rw [cells8_size, nonceS_len])
      obtain ⟨D, hD⟩ : ∃ D, nonceS s = D := ⟨_, rfl⟩
      rw [hD] at HB HS
      have HD := Lib.hid hD
      clear hD
      have hcase : (i : Int) < 12 ∧ ¬ (i : Int) < s.length ∨ ¬ (i : Int) < 12 := by omega
      rcases hcase with ⟨h1, h2⟩ | h1
      all_goals go_wp2_with (first | refine wpList_loadB (cs := cells8 D) rfl 104 (.tmp 3) rfl (w.heap.size + 1) rfl HB.out Tryd.underlying104 rfl sz12q HS.out ?_ | refine wpList_storeB rfl 104 (.tmp 2) (.tmp 21) rfl w.heap.size (cells8 D) rfl rfl HA.out sz12q HS.out HZ.out (cells8_one _) ?_)
      all_goals refine bodyPost_ret (results_B rfl _ (g := w.heap.size) rfl (HA.out.row _) Tryd.underlying104 rfl sz12q HS.out) rfl ⟨by rw [HD.out], below_row HBW.out (Nat.le_refl _) _⟩
end Go.Proofs.YtconhhhggckcbaaDoor
/- The walks of the reference's boxes: of, tag, Seal, Open. Printed by gen_ref04.py. -/
namespace Go.Proofs.YtconhhhggckcbaaDoor
open Go.RowKit

attribute [local simp] xorS_len tagS_len keyedS_len nonceS_len
theorem rkeyed1 (k x : List UInt8) (v : Value) (w : World) (hk : k.length = 32) (hs : Strs w v [x]) (hx : x.length < 2 ^ 59) :
    Calls Tryd.prog 54 #[.agg (cells8 k), v] w fun e w' => e = .returned (.agg (cells8 (keyedS k x))) ∧ Below w.heap.size w w' := by
  have h := rkeyed_any k [x] v w hk hs (by simpa using hx) (by simp)
  rwa [show [x].flatten = x by simp] at h
theorem rxor1_any (k nonce data : List UInt8) (w : World) (hk : k.length = 32) (hn : nonce.length = 12) (hd : data.length < 140737488355328) :
    Calls Tryd.prog 79 #[.agg (cells8 k), .agg (cells8 nonce), .int .u32 1, .string ⟨data.toArray⟩] w fun e w' => e = .returned (.string ⟨(xorS k nonce 1 data).toArray⟩) ∧ Below w.heap.size w w' := rxors_any k nonce 1 data w hk hn hd
set_option maxRecDepth 100000 in
set_option maxHeartbeats 1000000 in
theorem rof_any (k x : List UInt8) (w : World) (hLk : k.length = 32) (hx : x.length < 2 ^ 59) :
    Calls Tryd.prog 80 #[.agg (cells8 k), .string ⟨x.toArray⟩] w fun e w' => e = .returned (.agg (cells8 (keyedS k x))) ∧ Below w.heap.size w w' := by
  refine walk_enter Tryd.func80 rfl rfl rfl fun a0 F0 => ?_
  have M0 := Mem.new w
  refine wsl ?_
  refine sqNew (cs := (cells8 k)) (t := 23) F0 M0 (wantedS rfl) (run_box rfl (F0.ev 0 rfl)) rfl (by decide) fun g0 a1 w1 hgg0 hb1 F1 M1 => ?_
  refine sqNew (cs := (cells8 (List.replicate 32 0))) (t := 23) F1 M1 (wantedS rfl) (run_alloc rfl (by kernel_rfl)) rfl (by decide) fun g1 a2 w2 hgg1 hb2 F2 M2 => ?_
  refine sn ?_
  clear F0 F1 M0 M1
  refine wsl ?_
  refine sr F2 (run_ldB rfl (F2.ev 2 rfl) (M2.at 1 rfl) Tryd.underlying23 rfl sz32k (szOf hLk)) rfl rfl rfl fun a3 F3 => ?_
  refine mvS F3 rfl rfl rfl rfl rfl fun a4 F4 => ?_
  refine sqStrs [x] F4 M2 (wantedS rfl) (run_strs1 rfl (F4.ev 6 rfl)) rfl (by decide) fun v2 a5 w3 hsv2 hb3 F5 M3 => ?_
  refine sqC (v := (.agg (cells8 (keyedS k x)))) F5 M3 (wantedS rfl) (run_call rfl Tryd.func54 (by kernel_rfl) rfl (mapE2 (F5.ev 5 rfl) (F5.ev 7 rfl))) rfl (by decide) (rkeyed1 k x _ w3 hLk hsv2 (by first | omega | decide | (simp; omega))) fun a6 w4 hb4 F6 M4 => ?_
  refine sqStore (i := 0) F6 M4 rfl rfl rfl (F6.ev 4 rfl) (F6.ev 8 rfl) rfl sz32k (szOf (keyedS_len _ _)) (szOf List.length_replicate) (cells8_one _) fun a7 w5 F7 M5 => ?_
  refine sn ?_
  clear F2 F3 F4 F5 F6 M2 M3 M4
  refine wp_ret ?_
  exact retB F7 rfl rfl (M5.at 0 rfl) Tryd.underlying23 rfl sz32k (szOf (keyedS_len _ _)) ⟨rfl, M5.below⟩
set_option maxRecDepth 100000 in
set_option maxHeartbeats 1000000 in
theorem rtag_any (k h x : List UInt8) (w : World) (hLk : k.length = 32) (hl : h.length + x.length < 140737488355300) :
    Calls Tryd.prog 78 #[.agg (cells8 k), .string ⟨h.toArray⟩, .string ⟨x.toArray⟩] w fun e w' => e = .returned (.string ⟨(tagS k h x).toArray⟩) ∧ Below w.heap.size w w' := by
  have hrl := rowS_len [h, x]
  simp only [List.flatten_cons, List.flatten_nil, List.length_append, List.length_cons, List.length_nil] at hrl
  refine walk_enter Tryd.func78 rfl rfl rfl fun a0 F0 => ?_
  have M0 := Mem.new w
  refine wsl ?_
  refine sqNew (cs := (cells8 k)) (t := 23) F0 M0 (wantedS rfl) (run_box rfl (F0.ev 0 rfl)) rfl (by decide) fun g0 a1 w1 hgg0 hb1 F1 M1 => ?_
  refine sr (v := (.string ⟨List.toArray []⟩)) F1 (run_as rfl rfl) rfl rfl rfl fun a2 F2 => ?_
  refine sn ?_
  clear F0 F1 M0
  refine wsl ?_
  refine sr F2 (run_ldB rfl (F2.ev 3 rfl) (M1.at 0 rfl) Tryd.underlying23 rfl sz32k (szOf hLk)) rfl rfl rfl fun a3 F3 => ?_
  refine sqC (v := (.agg (cells8 (keyedS k [116, 97, 103])))) F3 M1 (wantedS rfl) (run_call rfl Tryd.func80 (by kernel_rfl) rfl (mapE2 (F3.ev 8 rfl) rfl)) rfl (by decide) (rof_any k [116, 97, 103] w1 hLk (by first | omega | decide | (simp; omega))) fun a4 w2 hb2 F4 M2 => ?_
  refine mvS F4 rfl rfl rfl rfl rfl fun a5 F5 => ?_
  refine mvS F5 rfl rfl rfl rfl rfl fun a6 F6 => ?_
  refine sqStrs [h, x] F6 M2 (wantedS rfl) (run_strs2 rfl (F6.ev 10 rfl) (F6.ev 11 rfl)) rfl (by decide) fun v1 a7 w3 hsv1 hb3 F7 M3 => ?_
  refine sqC (v := (.string ⟨(rowS [h, x]).toArray⟩)) F7 M3 (wantedS rfl) (run_call rfl Tryd.func62 (by kernel_rfl) rfl (mapE1 (F7.ev 12 rfl))) rfl (by decide) (rrow_any [h, x] _ w3 hsv1 (by simp; omega) (by simp)) fun a8 w4 hb4 F8 M4 => ?_
  refine sqStrs [rowS [h, x]] F8 M4 (wantedS rfl) (run_strs1 rfl (F8.ev 13 rfl)) rfl (by decide) fun v2 a9 w5 hsv2 hb5 F9 M5 => ?_
  refine sqC (v := (.agg (cells8 (keyedS (keyedS k [116, 97, 103]) (rowS [h, x]))))) F9 M5 (wantedS rfl) (run_call rfl Tryd.func54 (by kernel_rfl) rfl (mapE2 (F9.ev 9 rfl) (F9.ev 14 rfl))) rfl (by decide) (rkeyed1 (keyedS k [116, 97, 103]) (rowS [h, x]) _ w5 (keyedS_len _ _) hsv2 (by first | omega | decide | (simp; omega))) fun a10 w6 hb6 F10 M6 => ?_
  refine sqNew (cs := (cells8 (List.replicate 32 0))) (t := 73) F10 M6 (wantedS rfl) (run_alloc rfl (by kernel_rfl)) rfl (by decide) fun g3 a11 w7 hgg3 hb7 F11 M7 => ?_
  refine sqStore (i := 0) F11 M7 rfl rfl rfl (F11.ev 7 rfl) (F11.ev 15 rfl) rfl sz32d (szOf (keyedS_len _ _)) (szOf List.length_replicate) (cells8_one _) fun a12 w8 F12 M8 => ?_
  refine sn ?_
  clear F2 F3 F4 F5 F6 F7 F8 F9 F10 F11 M1 M2 M3 M4 M5 M6 M7
  refine wsl ?_
  refine sr (v := (.slice (some ⟨g3, 0, none⟩) 32 32)) F12 (run_slA rfl (F12.ev 7 rfl) (run_sliceArr_all (P := Tryd.prog) Tryd.underlying73 so8 g3 0 (by decide) _)) rfl rfl rfl fun a13 F13 => ?_
  refine sr (v := (.string ⟨(keyedS (keyedS k [116, 97, 103]) (rowS [h, x])).toArray⟩)) F13 (run_cv rfl (F13.ev 16 rfl) (run_strBlk (l := (keyedS (keyedS k [116, 97, 103]) (rowS [h, x]))) (keyedS_len _ _) (M8.at 0 rfl))) rfl rfl rfl fun a14 F14 => ?_
  refine asS F14 rfl rfl rfl rfl rfl fun a15 F15 => ?_
  refine sn ?_
  clear F12 F13 F14
  refine wp_ret ?_
  exact ret1 F15 rfl rfl ⟨rfl, M8.below⟩
theorem openS_short (k h x : List UInt8) (hs : x.length < 44) : openS k h x = ([], 4) := by unfold openS; rw [if_pos hs]
theorem openS_bent (k h x : List UInt8) (hs : ¬ x.length < 44) (ht : ¬ tagS k h (x.take (x.length - 32)) = x.drop (x.length - 32)) : openS k h x = ([], 5) := by unfold openS; rw [if_neg hs, if_neg ht]
theorem openS_ok (k h x : List UInt8) (hs : ¬ x.length < 44) (ht : tagS k h (x.take (x.length - 32)) = x.drop (x.length - 32)) : openS k h x = (xorS (keyedS k cipherT) (nonceS (x.take (x.length - 32))) 1 ((x.take (x.length - 32)).drop 12), 0) := by unfold openS; rw [if_neg hs, if_pos ht]
theorem nonceS_take (x : List UInt8) (n : Nat) (h : 12 ≤ n) (hn : n ≤ x.length) : nonceS (x.take n) = nonceS x := by
  unfold nonceS
  rw [List.take_take, Nat.min_eq_left h, List.length_take, Nat.min_eq_left hn, show 12 - n = 0 by omega, show 12 - x.length = 0 by omega]
set_option maxRecDepth 100000 in
set_option maxHeartbeats 1000000 in
theorem ropen_any (k h x : List UInt8) (w : World) (hLk : k.length = 32) (hl : h.length + x.length < 140737488355300) :
    Calls Tryd.prog 52 #[.agg (cells8 k), .string ⟨h.toArray⟩, .string ⟨x.toArray⟩] w fun e w' => e = .returned (.tuple #[.string ⟨(openS k h x).1.toArray⟩, .int .i64 (openS k h x).2]) ∧ Below w.heap.size w w' := by
  by_cases hs : x.length < 44
  · rw [openS_short k h x hs]
    refine walk_enter Tryd.func52 rfl rfl rfl fun a0 F0 => ?_
    have M0 := Mem.new w
    refine wsl ?_
    refine sqNew (cs := (cells8 k)) (t := 23) F0 M0 (wantedS rfl) (run_box rfl (F0.ev 0 rfl)) rfl (by decide) fun g0 a1 w1 hgg0 hb1 F1 M1 => ?_
    refine sr (v := (.string ⟨List.toArray []⟩)) F1 (run_as rfl rfl) rfl rfl rfl fun a2 F2 => ?_
    refine sr (v := (.int .i64 0)) F2 (run_as rfl rfl) rfl rfl rfl fun a3 F3 => ?_
    refine sn ?_
    clear F0 F1 F2 M0
    refine wsl ?_
    refine mvS F3 rfl rfl rfl rfl rfl fun a4 F4 => ?_
    refine sr F4 (run_len rfl (F4.ev 9 rfl) rfl Tryd.underlying9) rfl rfl rfl fun a5 F5 => ?_
    refine sr F5 (run_sub (r := (x.length : Int) - 32) rfl (F5.ev 10 rfl) rfl (by rw [IntKind.wrap_i64]; omega)) rfl rfl rfl fun a6 F6 => ?_
    refine asS F6 rfl rfl rfl rfl rfl fun a7 F7 => ?_
    refine sn ?_
    clear F3 F4 F5 F6
    refine wp_seq ?_
    refine wsl ?_
    refine mvS F7 rfl rfl rfl rfl rfl fun a8 F8 => ?_
    refine sr (v := (.bool true)) F8 (run_lss rfl (F8.ev 12 rfl) rfl (decide_eq_true (by omega))) rfl rfl rfl fun a9 F9 => ?_
    refine sn ?_
    clear F7 F8
    refine wp_cond_true (F9.ev 13 rfl) ?_
    refine wsl ?_
    refine sr (v := (.string ⟨List.toArray []⟩)) F9 (run_as rfl rfl) rfl rfl rfl fun a10 F10 => ?_
    refine sr (v := (.int .i64 4)) F10 (run_as rfl rfl) rfl rfl rfl fun a11 F11 => ?_
    refine sn ?_
    clear F9 F10
    refine wp_ret ?_
    refine nxRet ?_
    exact ret2 F11 rfl rfl rfl ⟨rfl, M1.below⟩
  have hlt : (x.take (x.length - 32)).length = x.length - 32 := by rw [List.length_take]; omega
  have hcond : (x.drop (x.length - 32) == tagS k h (x.take (x.length - 32))) = decide (tagS k h (x.take (x.length - 32)) = x.drop (x.length - 32)) := by rw [Bool.eq_iff_iff, beq_iff_eq, decide_eq_true_eq]; exact eq_comm
  by_cases ht : tagS k h (x.take (x.length - 32)) = x.drop (x.length - 32)
  · rw [openS_ok k h x hs ht]
    have hlm : ((x.drop 12).take (x.length - 32 - 12)).length = x.length - 44 := by rw [List.length_take, List.length_drop]; omega
    refine walk_enter Tryd.func52 rfl rfl rfl fun a0 F0 => ?_
    have M0 := Mem.new w
    refine wsl ?_
    refine sqNew (cs := (cells8 k)) (t := 23) F0 M0 (wantedS rfl) (run_box rfl (F0.ev 0 rfl)) rfl (by decide) fun g0 a1 w1 hgg0 hb1 F1 M1 => ?_
    refine sr (v := (.string ⟨List.toArray []⟩)) F1 (run_as rfl rfl) rfl rfl rfl fun a2 F2 => ?_
    refine sr (v := (.int .i64 0)) F2 (run_as rfl rfl) rfl rfl rfl fun a3 F3 => ?_
    refine sn ?_
    clear F0 F1 F2 M0
    refine wsl ?_
    refine mvS F3 rfl rfl rfl rfl rfl fun a4 F4 => ?_
    refine sr F4 (run_len rfl (F4.ev 9 rfl) rfl Tryd.underlying9) rfl rfl rfl fun a5 F5 => ?_
    refine sr F5 (run_sub (r := (x.length : Int) - 32) rfl (F5.ev 10 rfl) rfl (by rw [IntKind.wrap_i64]; omega)) rfl rfl rfl fun a6 F6 => ?_
    refine asS F6 rfl rfl rfl rfl rfl fun a7 F7 => ?_
    refine sn ?_
    clear F3 F4 F5 F6
    refine wp_seq ?_
    refine wsl ?_
    refine mvS F7 rfl rfl rfl rfl rfl fun a8 F8 => ?_
    refine sr (v := (.bool false)) F8 (run_lss rfl (F8.ev 12 rfl) rfl (decide_eq_false (by omega))) rfl rfl rfl fun a9 F9 => ?_
    refine sn ?_
    clear F7 F8
    refine cfs (F9.ev 13 rfl) ?_
    refine wp_seq ?_
    refine wp_seq ?_
    obtain ⟨KL, hKL⟩ : ∃ KL, KL = [kval (.string ⟨x.toArray⟩), kval (.int .i64 ((x.length : Int) - 32)), kval (.string ⟨(x.drop (x.length - 32)).toArray⟩), kval (.agg (cells8 k)), kval (.string ⟨h.toArray⟩), kval (.string ⟨x.toArray⟩), kval (.int .i64 ((x.length : Int) - 32)), kval (.string ⟨(x.take (x.length - 32)).toArray⟩), kval (.string ⟨(tagS k h (x.take (x.length - 32))).toArray⟩), kval (.bool false)] := ⟨_, rfl⟩
    have K0 := getK hKL 0
    have K1 := getK hKL 1
    have K2 := getK hKL 2
    have K3 := getK hKL 3
    have K4 := getK hKL 4
    have K5 := getK hKL 5
    have K6 := getK hKL 6
    have K7 := getK hKL 7
    have K8 := getK hKL 8
    have K9 := getK hKL 9
    clear hKL
    refine wp_region_kd 32 (by kernel_rfl) (by kernel_rfl) (by kernel_rfl) F9.size KL ?_ ?_
    · refine ⟨?_, ?_, ?_, ?_, ?_, ?_, ?_, ?_, ?_, ?_, trivial⟩
      · exact asksY rfl fun a W hS hh hd => giv_run (run_mv rfl (eval_tmp (hh 2 _ rfl (F9.at 2 rfl)))) K0
      · exact asksY rfl fun a W hS hh hd => giv_run (run_mv rfl (eval_tmp (hh 8 _ rfl (F9.at 8 rfl)))) K1
      · exact asksY rfl fun a W hS hh hd => giv_run (run_sFrom (m := (x.length - 32)) rfl (eval_tmp (hd.vl 0 14 (by kernel_rfl) K0)) (eval_tmp (hd.vl 1 15 (by kernel_rfl) K1)) Tryd.underlying9 (by omega) (by omega)) K2
      · exact asksY rfl fun a W hS hh hd => giv_run (run_ldB rfl (eval_tmp (hh 3 _ rfl (F9.at 3 rfl))) ((M1.grow hS).at 0 rfl) Tryd.underlying23 rfl sz32k (szOf hLk)) K3
      · exact asksY rfl fun a W hS hh hd => giv_run (run_mv rfl (eval_tmp (hh 1 _ rfl (F9.at 1 rfl)))) K4
      · exact asksY rfl fun a W hS hh hd => giv_run (run_mv rfl (eval_tmp (hh 2 _ rfl (F9.at 2 rfl)))) K5
      · exact asksY rfl fun a W hS hh hd => giv_run (run_mv rfl (eval_tmp (hh 8 _ rfl (F9.at 8 rfl)))) K6
      · exact asksY rfl fun a W hS hh hd => giv_run (run_sTo (n := (x.length - 32)) rfl (eval_tmp (hd.vl 5 19 (by kernel_rfl) K5)) (eval_tmp (hd.vl 6 20 (by kernel_rfl) K6)) Tryd.underlying9 (by omega) (by omega)) K7
      · exact asksY rfl fun a W hS hh hd => giv_call (run_call rfl Tryd.func78 (by kernel_rfl) rfl (mapE3 (eval_tmp (hd.vl 3 17 (by kernel_rfl) K3)) (eval_tmp (hd.vl 4 18 (by kernel_rfl) K4)) (eval_tmp (hd.vl 7 21 (by kernel_rfl) K7)))) (rtag_any k h (x.take (x.length - 32)) W hLk (by first | omega | decide | (simp; omega))) K8
      · exact asksY rfl fun a W hS hh hd => giv_run (run_nes rfl (eval_tmp (hd.vl 2 16 (by kernel_rfl) K2)) (eval_tmp (hd.vl 8 22 (by kernel_rfl) K8)) (by rw [hcond, decide_eq_true ht]; rfl)) K9
    · intro a10 w2 hb2 hK
      have e0 := hK.vl 0 14 (by kernel_rfl) K0
      have e1 := hK.vl 1 15 (by kernel_rfl) K1
      have e2 := hK.vl 2 16 (by kernel_rfl) K2
      have e3 := hK.vl 3 17 (by kernel_rfl) K3
      have e4 := hK.vl 4 18 (by kernel_rfl) K4
      have e5 := hK.vl 5 19 (by kernel_rfl) K5
      have e6 := hK.vl 6 20 (by kernel_rfl) K6
      have e7 := hK.vl 7 21 (by kernel_rfl) K7
      have e8 := hK.vl 8 22 (by kernel_rfl) K8
      have e9 := hK.vl 9 23 (by kernel_rfl) K9
      have F10 : Fr a10 32 [(0, (.agg (cells8 k))), (2, (.string ⟨x.toArray⟩)), (3, (.pointer (some ⟨g0, 0, none⟩))), (6, (.string ⟨List.toArray []⟩)), (7, (.int .i64 0)), (8, (.int .i64 ((x.length : Int) - 32))), (9, (.string ⟨x.toArray⟩)), (10, (.int .i64 (x.length : Int))), (11, (.int .i64 ((x.length : Int) - 32))), (12, (.int .i64 ((x.length : Int) - 32))), (13, (.bool false)), (23, (.bool false))] := (hK.fr F9 [_, _, _, _, _, _, _, _, _, _] ⟨e0, e1, e2, e3, e4, e5, e6, e7, e8, e9, trivial⟩).sub ⟨rfl, rfl, rfl, rfl, rfl, rfl, rfl, rfl, rfl, rfl, rfl, rfl, trivial⟩
      have M2 := M1.grow hb2
      clear hK K0 e0 K1 e1 K2 e2 K3 e3 K4 e4 K5 e5 K6 e6 K7 e7 K8 e8 K9 e9
      clear F9 M1
      refine nx ?_
      refine cfs (F10.ev 23 rfl) ?_
      refine wp_seq ?_
      obtain ⟨KL, hKL⟩ : ∃ KL, KL = [kval (.agg (cells8 k)), kval (.agg (cells8 (keyedS k [99, 105, 112, 104, 101, 114]))), kval (.string ⟨x.toArray⟩), kval (.agg (cells8 (nonceS x))), kval (.string ⟨x.toArray⟩), kval (.int .i64 ((x.length : Int) - 32)), kval (.string ⟨((x.drop 12).take (x.length - 32 - 12)).toArray⟩), kval (.string ⟨(xorS (keyedS k [99, 105, 112, 104, 101, 114]) (nonceS x) 1 ((x.drop 12).take (x.length - 32 - 12))).toArray⟩), kval (.string ⟨(xorS (keyedS k [99, 105, 112, 104, 101, 114]) (nonceS x) 1 ((x.drop 12).take (x.length - 32 - 12))).toArray⟩), kval (.int .i64 0)] := ⟨_, rfl⟩
      have K0 := getK hKL 0
      have K1 := getK hKL 1
      have K2 := getK hKL 2
      have K3 := getK hKL 3
      have K4 := getK hKL 4
      have K5 := getK hKL 5
      have K6 := getK hKL 6
      have K7 := getK hKL 7
      have K8 := getK hKL 8
      have K9 := getK hKL 9
      clear hKL
      refine wp_region_kd 32 (by kernel_rfl) (by kernel_rfl) (by kernel_rfl) F10.size KL ?_ ?_
      · refine ⟨?_, ?_, ?_, ?_, ?_, ?_, ?_, ?_, ?_, ?_, trivial⟩
        · exact asksY rfl fun a W hS hh hd => giv_run (run_ldB rfl (eval_tmp (hh 3 _ rfl (F10.at 3 rfl))) ((M2.grow hS).at 0 rfl) Tryd.underlying23 rfl sz32k (szOf hLk)) K0
        · exact asksY rfl fun a W hS hh hd => giv_call (run_call rfl Tryd.func80 (by kernel_rfl) rfl (mapE2 (eval_tmp (hd.vl 0 24 (by kernel_rfl) K0)) rfl)) (rof_any k [99, 105, 112, 104, 101, 114] W hLk (by first | omega | decide | (simp; omega))) K1
        · exact asksY rfl fun a W hS hh hd => giv_run (run_mv rfl (eval_tmp (hh 2 _ rfl (F10.at 2 rfl)))) K2
        · exact asksY rfl fun a W hS hh hd => giv_call (run_call rfl Tryd.func68 (by kernel_rfl) rfl (mapE1 (eval_tmp (hd.vl 2 26 (by kernel_rfl) K2)))) (rnonce_any x W (by unfold maxLen; omega)) K3
        · exact asksY rfl fun a W hS hh hd => giv_run (run_mv rfl (eval_tmp (hh 2 _ rfl (F10.at 2 rfl)))) K4
        · exact asksY rfl fun a W hS hh hd => giv_run (run_mv rfl (eval_tmp (hh 8 _ rfl (F10.at 8 rfl)))) K5
        · exact asksY rfl fun a W hS hh hd => giv_run (run_sMid (m := 12) (n := (x.length - 32)) rfl (eval_tmp (hd.vl 4 28 (by kernel_rfl) K4)) rfl (eval_tmp (hd.vl 5 29 (by kernel_rfl) K5)) Tryd.underlying9 (by omega) (by omega) (by omega) (by omega)) K6
        · exact asksY rfl fun a W hS hh hd => giv_call (run_call rfl Tryd.func79 (by kernel_rfl) rfl (mapE4 (eval_tmp (hd.vl 1 25 (by kernel_rfl) K1)) (eval_tmp (hd.vl 3 27 (by kernel_rfl) K3)) rfl (eval_tmp (hd.vl 6 30 (by kernel_rfl) K6)))) (rxor1_any (keyedS k [99, 105, 112, 104, 101, 114]) (nonceS x) ((x.drop 12).take (x.length - 32 - 12)) W (keyedS_len _ _) (nonceS_len _) (by first | omega | decide | (simp; omega))) K7
        · exact asksY rfl fun a W hS hh hd => giv_run (run_as rfl (eval_tmp (hd.vl 7 31 (by kernel_rfl) K7))) K8
        · exact asksY rfl fun a W hS hh hd => giv_run (run_as rfl rfl) K9
      · intro a11 w3 hb3 hK
        have e0 := hK.vl 0 24 (by kernel_rfl) K0
        have e1 := hK.vl 1 25 (by kernel_rfl) K1
        have e2 := hK.vl 2 26 (by kernel_rfl) K2
        have e3 := hK.vl 3 27 (by kernel_rfl) K3
        have e4 := hK.vl 4 28 (by kernel_rfl) K4
        have e5 := hK.vl 5 29 (by kernel_rfl) K5
        have e6 := hK.vl 6 30 (by kernel_rfl) K6
        have e7 := hK.vl 7 31 (by kernel_rfl) K7
        have e8 := hK.vl 8 6 (by kernel_rfl) K8
        have e9 := hK.vl 9 7 (by kernel_rfl) K9
        have F11 : Fr a11 32 [(0, (.agg (cells8 k))), (2, (.string ⟨x.toArray⟩)), (3, (.pointer (some ⟨g0, 0, none⟩))), (6, (.string ⟨(xorS (keyedS k [99, 105, 112, 104, 101, 114]) (nonceS x) 1 ((x.drop 12).take (x.length - 32 - 12))).toArray⟩)), (7, (.int .i64 0)), (8, (.int .i64 ((x.length : Int) - 32))), (9, (.string ⟨x.toArray⟩)), (10, (.int .i64 (x.length : Int))), (11, (.int .i64 ((x.length : Int) - 32))), (12, (.int .i64 ((x.length : Int) - 32))), (13, (.bool false)), (23, (.bool false))] := (hK.fr F10 [_, _, _, _, _, _, _, _, _, _] ⟨e0, e1, e2, e3, e4, e5, e6, e7, e8, e9, trivial⟩).sub ⟨rfl, rfl, rfl, rfl, rfl, rfl, rfl, rfl, rfl, rfl, rfl, rfl, trivial⟩
        have M3 := M2.grow hb3
        clear hK K0 e0 K1 e1 K2 e2 K3 e3 K4 e4 K5 e5 K6 e6 K7 e7 K8 e8 K9 e9
        clear F10 M2
        refine nx ?_
        refine wp_ret ?_
        exact ret2 F11 rfl rfl rfl ⟨by rw [nonceS_take x _ (by omega) (by omega), List.drop_take]; rfl, M3.below⟩
  · rw [openS_bent k h x hs ht]
    refine walk_enter Tryd.func52 rfl rfl rfl fun a0 F0 => ?_
    have M0 := Mem.new w
    refine wsl ?_
    refine sqNew (cs := (cells8 k)) (t := 23) F0 M0 (wantedS rfl) (run_box rfl (F0.ev 0 rfl)) rfl (by decide) fun g0 a1 w1 hgg0 hb1 F1 M1 => ?_
    refine sr (v := (.string ⟨List.toArray []⟩)) F1 (run_as rfl rfl) rfl rfl rfl fun a2 F2 => ?_
    refine sr (v := (.int .i64 0)) F2 (run_as rfl rfl) rfl rfl rfl fun a3 F3 => ?_
    refine sn ?_
    clear F0 F1 F2 M0
    refine wsl ?_
    refine mvS F3 rfl rfl rfl rfl rfl fun a4 F4 => ?_
    refine sr F4 (run_len rfl (F4.ev 9 rfl) rfl Tryd.underlying9) rfl rfl rfl fun a5 F5 => ?_
    refine sr F5 (run_sub (r := (x.length : Int) - 32) rfl (F5.ev 10 rfl) rfl (by rw [IntKind.wrap_i64]; omega)) rfl rfl rfl fun a6 F6 => ?_
    refine asS F6 rfl rfl rfl rfl rfl fun a7 F7 => ?_
    refine sn ?_
    clear F3 F4 F5 F6
    refine wp_seq ?_
    refine wsl ?_
    refine mvS F7 rfl rfl rfl rfl rfl fun a8 F8 => ?_
    refine sr (v := (.bool false)) F8 (run_lss rfl (F8.ev 12 rfl) rfl (decide_eq_false (by omega))) rfl rfl rfl fun a9 F9 => ?_
    refine sn ?_
    clear F7 F8
    refine cfs (F9.ev 13 rfl) ?_
    refine wp_seq ?_
    refine wp_seq ?_
    obtain ⟨KL, hKL⟩ : ∃ KL, KL = [kval (.string ⟨x.toArray⟩), kval (.int .i64 ((x.length : Int) - 32)), kval (.string ⟨(x.drop (x.length - 32)).toArray⟩), kval (.agg (cells8 k)), kval (.string ⟨h.toArray⟩), kval (.string ⟨x.toArray⟩), kval (.int .i64 ((x.length : Int) - 32)), kval (.string ⟨(x.take (x.length - 32)).toArray⟩), kval (.string ⟨(tagS k h (x.take (x.length - 32))).toArray⟩), kval (.bool true)] := ⟨_, rfl⟩
    have K0 := getK hKL 0
    have K1 := getK hKL 1
    have K2 := getK hKL 2
    have K3 := getK hKL 3
    have K4 := getK hKL 4
    have K5 := getK hKL 5
    have K6 := getK hKL 6
    have K7 := getK hKL 7
    have K8 := getK hKL 8
    have K9 := getK hKL 9
    clear hKL
    refine wp_region_kd 32 (by kernel_rfl) (by kernel_rfl) (by kernel_rfl) F9.size KL ?_ ?_
    · refine ⟨?_, ?_, ?_, ?_, ?_, ?_, ?_, ?_, ?_, ?_, trivial⟩
      · exact asksY rfl fun a W hS hh hd => giv_run (run_mv rfl (eval_tmp (hh 2 _ rfl (F9.at 2 rfl)))) K0
      · exact asksY rfl fun a W hS hh hd => giv_run (run_mv rfl (eval_tmp (hh 8 _ rfl (F9.at 8 rfl)))) K1
      · exact asksY rfl fun a W hS hh hd => giv_run (run_sFrom (m := (x.length - 32)) rfl (eval_tmp (hd.vl 0 14 (by kernel_rfl) K0)) (eval_tmp (hd.vl 1 15 (by kernel_rfl) K1)) Tryd.underlying9 (by omega) (by omega)) K2
      · exact asksY rfl fun a W hS hh hd => giv_run (run_ldB rfl (eval_tmp (hh 3 _ rfl (F9.at 3 rfl))) ((M1.grow hS).at 0 rfl) Tryd.underlying23 rfl sz32k (szOf hLk)) K3
      · exact asksY rfl fun a W hS hh hd => giv_run (run_mv rfl (eval_tmp (hh 1 _ rfl (F9.at 1 rfl)))) K4
      · exact asksY rfl fun a W hS hh hd => giv_run (run_mv rfl (eval_tmp (hh 2 _ rfl (F9.at 2 rfl)))) K5
      · exact asksY rfl fun a W hS hh hd => giv_run (run_mv rfl (eval_tmp (hh 8 _ rfl (F9.at 8 rfl)))) K6
      · exact asksY rfl fun a W hS hh hd => giv_run (run_sTo (n := (x.length - 32)) rfl (eval_tmp (hd.vl 5 19 (by kernel_rfl) K5)) (eval_tmp (hd.vl 6 20 (by kernel_rfl) K6)) Tryd.underlying9 (by omega) (by omega)) K7
      · exact asksY rfl fun a W hS hh hd => giv_call (run_call rfl Tryd.func78 (by kernel_rfl) rfl (mapE3 (eval_tmp (hd.vl 3 17 (by kernel_rfl) K3)) (eval_tmp (hd.vl 4 18 (by kernel_rfl) K4)) (eval_tmp (hd.vl 7 21 (by kernel_rfl) K7)))) (rtag_any k h (x.take (x.length - 32)) W hLk (by first | omega | decide | (simp; omega))) K8
      · exact asksY rfl fun a W hS hh hd => giv_run (run_nes rfl (eval_tmp (hd.vl 2 16 (by kernel_rfl) K2)) (eval_tmp (hd.vl 8 22 (by kernel_rfl) K8)) (by rw [hcond, decide_eq_false ht]; rfl)) K9
    · intro a10 w2 hb2 hK
      have e0 := hK.vl 0 14 (by kernel_rfl) K0
      have e1 := hK.vl 1 15 (by kernel_rfl) K1
      have e2 := hK.vl 2 16 (by kernel_rfl) K2
      have e3 := hK.vl 3 17 (by kernel_rfl) K3
      have e4 := hK.vl 4 18 (by kernel_rfl) K4
      have e5 := hK.vl 5 19 (by kernel_rfl) K5
      have e6 := hK.vl 6 20 (by kernel_rfl) K6
      have e7 := hK.vl 7 21 (by kernel_rfl) K7
      have e8 := hK.vl 8 22 (by kernel_rfl) K8
      have e9 := hK.vl 9 23 (by kernel_rfl) K9
      have F10 : Fr a10 32 [(0, (.agg (cells8 k))), (2, (.string ⟨x.toArray⟩)), (3, (.pointer (some ⟨g0, 0, none⟩))), (6, (.string ⟨List.toArray []⟩)), (7, (.int .i64 0)), (8, (.int .i64 ((x.length : Int) - 32))), (9, (.string ⟨x.toArray⟩)), (10, (.int .i64 (x.length : Int))), (11, (.int .i64 ((x.length : Int) - 32))), (12, (.int .i64 ((x.length : Int) - 32))), (13, (.bool false)), (23, (.bool true))] := (hK.fr F9 [_, _, _, _, _, _, _, _, _, _] ⟨e0, e1, e2, e3, e4, e5, e6, e7, e8, e9, trivial⟩).sub ⟨rfl, rfl, rfl, rfl, rfl, rfl, rfl, rfl, rfl, rfl, rfl, rfl, trivial⟩
      have M2 := M1.grow hb2
      clear hK K0 e0 K1 e1 K2 e2 K3 e3 K4 e4 K5 e5 K6 e6 K7 e7 K8 e8 K9 e9
      clear F9 M1
      refine nx ?_
      refine wp_cond_true (F10.ev 23 rfl) ?_
      refine wsl ?_
      refine sr (v := (.string ⟨List.toArray []⟩)) F10 (run_as rfl rfl) rfl rfl rfl fun a11 F11 => ?_
      refine sr (v := (.int .i64 5)) F11 (run_as rfl rfl) rfl rfl rfl fun a12 F12 => ?_
      refine sn ?_
      clear F10 F11
      refine wp_ret ?_
      refine nxRet ?_
      exact ret2 F12 rfl rfl rfl ⟨rfl, M2.below⟩
end Go.Proofs.YtconhhhggckcbaaDoor
