/- The walk of share.Join. Printed by gen_key5.py. -/
import Derived.Test.YtconhhhggckcbaaDoorFldP
import Derived.Test.YtconhhhggckcbaaDoorShQ
import Derived.Test.YtconhhhggckcbaaDoorEndB
namespace Go.Proofs.YtconhhhggckcbaaDoor
open Go.RowKit

/-- what joining hands back. -/
def joinR : Option (List UInt8) → Ending
  | none => .returned (.tuple #[.agg (cells8 (List.replicate 32 0)), .int .i64 1])
  | some k => .returned (.tuple #[.agg (cells8 k), .int .i64 0])
set_option maxRecDepth 100000 in
set_option maxHeartbeats 1000000 in
theorem joinN_any (l : List Sh) (v : Value) (w : World) (hV : Sl w v 33 l.length (l.flatMap shareC)) (hl : l.length ≠ 3) : Calls Tryd.prog 28 #[v] w fun e w' => e = joinR none ∧ Below w.heap.size w w' := by
  refine walk_enter Tryd.func28 rfl rfl rfl fun a0 F0 => ?_
  have M0 := Mem.new w
  refine wsl ?_
  refine sqNew (cs := (cells8 (List.replicate 32 0))) (t := 23) F0 M0 (wantedS rfl) (run_alloc rfl (by kernel_rfl)) rfl (by decide) fun g0 a1 w1 hgg0 hb1 F1 M1 => ?_
  refine sr (v := (.int .i64 0)) F1 (run_as rfl rfl) rfl rfl rfl fun a2 F2 => ?_
  refine sn ?_
  clear F0 F1 M0
  refine wp_seq ?_
  refine wsl ?_
  refine mvS F2 rfl rfl rfl rfl rfl fun a3 F3 => ?_
  refine sr F3 (run_lenS rfl (F3.ev 11 rfl) (hV.below M1.below) rfl Tryd.underlying31) rfl rfl rfl fun a4 F4 => ?_
  refine sr (v := (.bool true)) F4 (run_nei rfl (F4.ev 12 rfl) rfl (bne_iff_ne.2 (by omega))) rfl rfl rfl fun a5 F5 => ?_
  refine sn ?_
  clear F2 F3 F4
  refine wp_cond_true (F5.ev 13 rfl) ?_
  refine wsl ?_
  refine sr (v := (.agg (cells8 (List.replicate 32 0)))) F5 (run_blt (vs := #[]) (cs := cells8 (List.replicate 32 0)) rfl (by simp) (by kernel_rfl)) rfl rfl rfl fun a6 F6 => ?_
  refine sqStore (i := 0) F6 M1 rfl rfl rfl (F6.ev 2 rfl) (F6.ev 14 rfl) rfl sz32k (szOf List.length_replicate) (szOf List.length_replicate) (cells8_one _) fun a7 w2 F7 M2 => ?_
  refine sr (v := (.int .i64 1)) F7 (run_as rfl rfl) rfl rfl rfl fun a8 F8 => ?_
  refine sn ?_
  clear F5 F6 F7 M1
  refine wp_ret ?_
  refine nxRet ?_
  exact retBT F8 rfl rfl (M2.at 0 rfl) Tryd.underlying23 rfl sz32k (szOf List.length_replicate) rfl ⟨rfl, M2.below⟩
set_option maxRecDepth 100000 in
set_option maxHeartbeats 1000000 in
theorem join3_any (s0 s1 s2 : Sh) (v : Value) (w : World) (hV : Sl w v 33 3 ([s0, s1, s2].flatMap shareC)) : Calls Tryd.prog 28 #[v] w fun e w' => e = joinR (joinT [s0, s1, s2]) ∧ Below w.heap.size w w' := by
  by_cases hz : s0.x = 0 ∨ s1.x = 0 ∨ s2.x = 0
  · have hJ : joinT [s0, s1, s2] = none := by rw [joinT, if_pos hz]
    rw [hJ]
    have nz : ∀ x : UInt8, x ≠ 0 → x.toNat ≠ 0 := fun x h e => h (UInt8.toNat_inj.1 e)
    by_cases z0 : s0.x = 0
    · have z0n : s0.x.toNat = 0 := by rw [z0]; rfl
      refine walk_enter Tryd.func28 rfl rfl rfl fun a0 F0 => ?_
      have M0 := Mem.new w
      refine wsl ?_
      refine sqNew (cs := (cells8 (List.replicate 32 0))) (t := 23) F0 M0 (wantedS rfl) (run_alloc rfl (by kernel_rfl)) rfl (by decide) fun g0 a1 w1 hgg0 hb1 F1 M1 => ?_
      refine sr (v := (.int .i64 0)) F1 (run_as rfl rfl) rfl rfl rfl fun a2 F2 => ?_
      refine sn ?_
      clear F0 F1 M0
      refine wp_seq ?_
      refine wsl ?_
      refine mvS F2 rfl rfl rfl rfl rfl fun a3 F3 => ?_
      refine sr F3 (run_lenS rfl (F3.ev 11 rfl) (hV.below M1.below) rfl Tryd.underlying31) rfl rfl rfl fun a4 F4 => ?_
      refine sr (v := (.bool false)) F4 (run_nei rfl (F4.ev 12 rfl) rfl (bne_eq_false_iff_eq.2 (by omega))) rfl rfl rfl fun a5 F5 => ?_
      refine sn ?_
      clear F2 F3 F4
      refine cfs (F5.ev 13 rfl) ?_
      refine wsl ?_
      refine mvS F5 rfl rfl rfl rfl rfl fun a6 F6 => ?_
      refine sr (v := (slPtr v 0)) F6 (run_arrP rfl (F6.ev 15 rfl) (hV.below M1.below) Tryd.underlying94 (by omega) (by omega)) rfl rfl rfl fun a7 F7 => ?_
      refine sr (v := (.agg (cells8 (b3 s0 s1 s2)))) F7 (run_ldPS (ys := (b3 s0 s1 s2).map cb) rfl (F7.ev 16 rfl) (hV.below M1.below) (by omega) (fun j u hj => by rw [Nat.zero_add, ← b3_flat]; exact hj) (by kernel_rfl) (by rw [List.length_map, b3_len]; kernel_rfl)) rfl rfl rfl fun a8 F8 => ?_
      refine sqNew (cs := (cells8 (List.replicate 99 0))) (t := 94) F8 M1 (wantedS rfl) (run_alloc rfl (by kernel_rfl)) rfl (by decide) fun g1 a9 w2 hgg1 hb2 F9 M2 => ?_
      refine sqStore (i := 0) F9 M2 rfl rfl rfl (F9.ev 4 rfl) (F9.ev 17 rfl) rfl sz94 (szOf (b3_len _ _ _)) (szOf List.length_replicate) (cells8_one _) fun a10 w3 F10 M3 => ?_
      refine sn ?_
      clear F5 F6 F7 F8 F9 M1 M2
      refine wsl ?_
      refine sr (v := (.pointer (some ⟨g1, 0 * 33, none⟩))) F10 (run_idx33 (i := 0) (cnt := 3) rfl (F10.ev 4 rfl) rfl rfl (by omega) Tryd.underlying94 (by kernel_rfl)) rfl rfl rfl fun a11 F11 => ?_
      refine sr (v := (.pointer (some ⟨g1, 0 * 33 + 0, none⟩))) F11 (run_fldO (m := 1) (s := 0) rfl (F11.ev 18 rfl) Tryd.underlying54 rfl rfl (by kernel_rfl) (by decide)) rfl rfl rfl fun a12 F12 => ?_
      refine sr (v := (.int .u8 (s0.x.toNat : Int))) F12 (run_ldF rfl (F12.ev 19 rfl) (M3.at 0 rfl) (b3_x (j := 0) rfl) (by kernel_rfl)) rfl rfl rfl fun a13 F13 => ?_
      refine sr (v := (.pointer (some ⟨g1, 1 * 33, none⟩))) F13 (run_idx33 (i := 1) (cnt := 3) rfl (F13.ev 4 rfl) rfl rfl (by omega) Tryd.underlying94 (by kernel_rfl)) rfl rfl rfl fun a14 F14 => ?_
      refine sr (v := (.pointer (some ⟨g1, 1 * 33 + 0, none⟩))) F14 (run_fldO (m := 1) (s := 0) rfl (F14.ev 21 rfl) Tryd.underlying54 rfl rfl (by kernel_rfl) (by decide)) rfl rfl rfl fun a15 F15 => ?_
      refine sr (v := (.int .u8 (s1.x.toNat : Int))) F15 (run_ldF rfl (F15.ev 22 rfl) (M3.at 0 rfl) (b3_x (j := 1) rfl) (by kernel_rfl)) rfl rfl rfl fun a16 F16 => ?_
      refine sr (v := (.pointer (some ⟨g1, 2 * 33, none⟩))) F16 (run_idx33 (i := 2) (cnt := 3) rfl (F16.ev 4 rfl) rfl rfl (by omega) Tryd.underlying94 (by kernel_rfl)) rfl rfl rfl fun a17 F17 => ?_
      refine sr (v := (.pointer (some ⟨g1, 2 * 33 + 0, none⟩))) F17 (run_fldO (m := 1) (s := 0) rfl (F17.ev 24 rfl) Tryd.underlying54 rfl rfl (by kernel_rfl) (by decide)) rfl rfl rfl fun a18 F18 => ?_
      refine sr (v := (.int .u8 (s2.x.toNat : Int))) F18 (run_ldF rfl (F18.ev 25 rfl) (M3.at 0 rfl) (b3_x (j := 2) rfl) (by kernel_rfl)) rfl rfl rfl fun a19 F19 => ?_
      refine sr (v := (.agg (cells8 [s0.x, s1.x, s2.x]))) F19 (run_blt (vs := #[(0, .int .u8 (s0.x.toNat : Int)), (1, .int .u8 (s1.x.toNat : Int)), (2, .int .u8 (s2.x.toNat : Int))]) (cs := cells8 [s0.x, s1.x, s2.x]) rfl (bltE3 (F19.ev 20 rfl) (F19.ev 23 rfl) (F19.ev 26 rfl)) rfl) rfl rfl rfl fun a20 F20 => ?_
      refine sqNew (cs := (cells8 (List.replicate 3 0))) (t := 47) F20 M3 (wantedS rfl) (run_alloc rfl (by kernel_rfl)) rfl (by decide) fun g2 a21 w4 hgg2 hb4 F21 M4 => ?_
      refine sqStore (i := 0) F21 M4 rfl rfl rfl (F21.ev 5 rfl) (F21.ev 27 rfl) rfl sz47 (szOf rfl) (szOf List.length_replicate) (cells8_one _) fun a22 w5 F22 M5 => ?_
      refine sn ?_
      clear F10 F11 F12 F13 F14 F15 F16 F17 F18 F19 F20 F21 M3 M4
      refine wp_seq ?_
      refine wsl ?_
      refine sr (v := (.pointer (some ⟨g2, 0, none⟩))) F22 (run_idxA (i := 0) (cnt := 3) rfl (F22.ev 5 rfl) rfl rfl (by omega) Tryd.underlying47 (by kernel_rfl)) rfl rfl rfl fun a23 F23 => ?_
      refine sr (v := (.int .u8 (s0.x.toNat : Int))) F23 (run_ldF rfl (F23.ev 28 rfl) (M5.at 0 rfl) rfl (by kernel_rfl)) rfl rfl rfl fun a24 F24 => ?_
      refine sr (v := (.bool true)) F24 (run_eqi rfl (F24.ev 29 rfl) rfl (beq_iff_eq.2 (by omega))) rfl rfl rfl fun a25 F25 => ?_
      refine mvS F25 rfl rfl rfl rfl rfl fun a26 F26 => ?_
      refine sqSkip F26 (unwantedG F26 rfl rfl rfl rfl rfl) rfl (by decide) fun a27 F27 => ?_
      refine sqSkip F27 (unwantedG F27 rfl rfl rfl rfl rfl) rfl (by decide) fun a28 F28 => ?_
      refine sqSkip F28 (unwantedG F28 rfl rfl rfl rfl rfl) rfl (by decide) fun a29 F29 => ?_
      refine sr (v := (.bool true)) F29 (run_pick rfl (F29.ev 31 rfl) rfl (F29.ev 34 rfl)) rfl rfl rfl fun a30 F30 => ?_
      refine mvS F30 rfl rfl rfl rfl rfl fun a31 F31 => ?_
      refine sqSkip F31 (unwantedG F31 rfl rfl rfl rfl rfl) rfl (by decide) fun a32 F32 => ?_
      refine sqSkip F32 (unwantedG F32 rfl rfl rfl rfl rfl) rfl (by decide) fun a33 F33 => ?_
      refine sqSkip F33 (unwantedG F33 rfl rfl rfl rfl rfl) rfl (by decide) fun a34 F34 => ?_
      refine sr (v := (.bool true)) F34 (run_pick rfl (F34.ev 36 rfl) rfl (F34.ev 39 rfl)) rfl rfl rfl fun a35 F35 => ?_
      refine sn ?_
      clear F22 F23 F24 F25 F26 F27 F28 F29 F30 F31 F32 F33 F34
      refine wp_cond_true (F35.ev 40 rfl) ?_
      refine wsl ?_
      refine sr (v := (.agg (cells8 (List.replicate 32 0)))) F35 (run_blt (vs := #[]) (cs := cells8 (List.replicate 32 0)) rfl (by simp) (by kernel_rfl)) rfl rfl rfl fun a36 F36 => ?_
      refine sqStore (i := 2) F36 M5 rfl rfl rfl (F36.ev 2 rfl) (F36.ev 41 rfl) rfl sz32k (szOf List.length_replicate) (szOf List.length_replicate) (cells8_one _) fun a37 w6 F37 M6 => ?_
      refine sr (v := (.int .i64 1)) F37 (run_as rfl rfl) rfl rfl rfl fun a38 F38 => ?_
      refine sn ?_
      clear F35 F36 F37 M5
      refine wp_ret ?_
      refine nxRet ?_
      exact retBT F38 rfl rfl (M6.at 2 rfl) Tryd.underlying23 rfl sz32k (szOf List.length_replicate) rfl ⟨rfl, M6.below⟩
    · have z0n := nz _ z0
      by_cases z1 : s1.x = 0
      · have z1n : s1.x.toNat = 0 := by rw [z1]; rfl
        refine walk_enter Tryd.func28 rfl rfl rfl fun a0 F0 => ?_
        have M0 := Mem.new w
        refine wsl ?_
        refine sqNew (cs := (cells8 (List.replicate 32 0))) (t := 23) F0 M0 (wantedS rfl) (run_alloc rfl (by kernel_rfl)) rfl (by decide) fun g0 a1 w1 hgg0 hb1 F1 M1 => ?_
        refine sr (v := (.int .i64 0)) F1 (run_as rfl rfl) rfl rfl rfl fun a2 F2 => ?_
        refine sn ?_
        clear F0 F1 M0
        refine wp_seq ?_
        refine wsl ?_
        refine mvS F2 rfl rfl rfl rfl rfl fun a3 F3 => ?_
        refine sr F3 (run_lenS rfl (F3.ev 11 rfl) (hV.below M1.below) rfl Tryd.underlying31) rfl rfl rfl fun a4 F4 => ?_
        refine sr (v := (.bool false)) F4 (run_nei rfl (F4.ev 12 rfl) rfl (bne_eq_false_iff_eq.2 (by omega))) rfl rfl rfl fun a5 F5 => ?_
        refine sn ?_
        clear F2 F3 F4
        refine cfs (F5.ev 13 rfl) ?_
        refine wsl ?_
        refine mvS F5 rfl rfl rfl rfl rfl fun a6 F6 => ?_
        refine sr (v := (slPtr v 0)) F6 (run_arrP rfl (F6.ev 15 rfl) (hV.below M1.below) Tryd.underlying94 (by omega) (by omega)) rfl rfl rfl fun a7 F7 => ?_
        refine sr (v := (.agg (cells8 (b3 s0 s1 s2)))) F7 (run_ldPS (ys := (b3 s0 s1 s2).map cb) rfl (F7.ev 16 rfl) (hV.below M1.below) (by omega) (fun j u hj => by rw [Nat.zero_add, ← b3_flat]; exact hj) (by kernel_rfl) (by rw [List.length_map, b3_len]; kernel_rfl)) rfl rfl rfl fun a8 F8 => ?_
        refine sqNew (cs := (cells8 (List.replicate 99 0))) (t := 94) F8 M1 (wantedS rfl) (run_alloc rfl (by kernel_rfl)) rfl (by decide) fun g1 a9 w2 hgg1 hb2 F9 M2 => ?_
        refine sqStore (i := 0) F9 M2 rfl rfl rfl (F9.ev 4 rfl) (F9.ev 17 rfl) rfl sz94 (szOf (b3_len _ _ _)) (szOf List.length_replicate) (cells8_one _) fun a10 w3 F10 M3 => ?_
        refine sn ?_
        clear F5 F6 F7 F8 F9 M1 M2
        refine wsl ?_
        refine sr (v := (.pointer (some ⟨g1, 0 * 33, none⟩))) F10 (run_idx33 (i := 0) (cnt := 3) rfl (F10.ev 4 rfl) rfl rfl (by omega) Tryd.underlying94 (by kernel_rfl)) rfl rfl rfl fun a11 F11 => ?_
        refine sr (v := (.pointer (some ⟨g1, 0 * 33 + 0, none⟩))) F11 (run_fldO (m := 1) (s := 0) rfl (F11.ev 18 rfl) Tryd.underlying54 rfl rfl (by kernel_rfl) (by decide)) rfl rfl rfl fun a12 F12 => ?_
        refine sr (v := (.int .u8 (s0.x.toNat : Int))) F12 (run_ldF rfl (F12.ev 19 rfl) (M3.at 0 rfl) (b3_x (j := 0) rfl) (by kernel_rfl)) rfl rfl rfl fun a13 F13 => ?_
        refine sr (v := (.pointer (some ⟨g1, 1 * 33, none⟩))) F13 (run_idx33 (i := 1) (cnt := 3) rfl (F13.ev 4 rfl) rfl rfl (by omega) Tryd.underlying94 (by kernel_rfl)) rfl rfl rfl fun a14 F14 => ?_
        refine sr (v := (.pointer (some ⟨g1, 1 * 33 + 0, none⟩))) F14 (run_fldO (m := 1) (s := 0) rfl (F14.ev 21 rfl) Tryd.underlying54 rfl rfl (by kernel_rfl) (by decide)) rfl rfl rfl fun a15 F15 => ?_
        refine sr (v := (.int .u8 (s1.x.toNat : Int))) F15 (run_ldF rfl (F15.ev 22 rfl) (M3.at 0 rfl) (b3_x (j := 1) rfl) (by kernel_rfl)) rfl rfl rfl fun a16 F16 => ?_
        refine sr (v := (.pointer (some ⟨g1, 2 * 33, none⟩))) F16 (run_idx33 (i := 2) (cnt := 3) rfl (F16.ev 4 rfl) rfl rfl (by omega) Tryd.underlying94 (by kernel_rfl)) rfl rfl rfl fun a17 F17 => ?_
        refine sr (v := (.pointer (some ⟨g1, 2 * 33 + 0, none⟩))) F17 (run_fldO (m := 1) (s := 0) rfl (F17.ev 24 rfl) Tryd.underlying54 rfl rfl (by kernel_rfl) (by decide)) rfl rfl rfl fun a18 F18 => ?_
        refine sr (v := (.int .u8 (s2.x.toNat : Int))) F18 (run_ldF rfl (F18.ev 25 rfl) (M3.at 0 rfl) (b3_x (j := 2) rfl) (by kernel_rfl)) rfl rfl rfl fun a19 F19 => ?_
        refine sr (v := (.agg (cells8 [s0.x, s1.x, s2.x]))) F19 (run_blt (vs := #[(0, .int .u8 (s0.x.toNat : Int)), (1, .int .u8 (s1.x.toNat : Int)), (2, .int .u8 (s2.x.toNat : Int))]) (cs := cells8 [s0.x, s1.x, s2.x]) rfl (bltE3 (F19.ev 20 rfl) (F19.ev 23 rfl) (F19.ev 26 rfl)) rfl) rfl rfl rfl fun a20 F20 => ?_
        refine sqNew (cs := (cells8 (List.replicate 3 0))) (t := 47) F20 M3 (wantedS rfl) (run_alloc rfl (by kernel_rfl)) rfl (by decide) fun g2 a21 w4 hgg2 hb4 F21 M4 => ?_
        refine sqStore (i := 0) F21 M4 rfl rfl rfl (F21.ev 5 rfl) (F21.ev 27 rfl) rfl sz47 (szOf rfl) (szOf List.length_replicate) (cells8_one _) fun a22 w5 F22 M5 => ?_
        refine sn ?_
        clear F10 F11 F12 F13 F14 F15 F16 F17 F18 F19 F20 F21 M3 M4
        refine wp_seq ?_
        refine wsl ?_
        refine sr (v := (.pointer (some ⟨g2, 0, none⟩))) F22 (run_idxA (i := 0) (cnt := 3) rfl (F22.ev 5 rfl) rfl rfl (by omega) Tryd.underlying47 (by kernel_rfl)) rfl rfl rfl fun a23 F23 => ?_
        refine sr (v := (.int .u8 (s0.x.toNat : Int))) F23 (run_ldF rfl (F23.ev 28 rfl) (M5.at 0 rfl) rfl (by kernel_rfl)) rfl rfl rfl fun a24 F24 => ?_
        refine sr (v := (.bool false)) F24 (run_eqi rfl (F24.ev 29 rfl) rfl (beq_eq_false_iff_ne.2 (by omega))) rfl rfl rfl fun a25 F25 => ?_
        refine mvS F25 rfl rfl rfl rfl rfl fun a26 F26 => ?_
        refine sq (v := (.pointer (some ⟨g2, 1, none⟩))) F26 (wantedG F26 rfl rfl rfl rfl rfl) (run_idxA (i := 1) (cnt := 3) rfl (F26.ev 5 rfl) rfl rfl (by omega) Tryd.underlying47 (by kernel_rfl)) rfl (by decide) fun a27 F27 => ?_
        refine sq (v := (.int .u8 (s1.x.toNat : Int))) F27 (wantedG F27 rfl rfl rfl rfl rfl) (run_ldF rfl (F27.ev 32 rfl) (M5.at 0 rfl) rfl (by kernel_rfl)) rfl (by decide) fun a28 F28 => ?_
        refine sq (v := (.bool true)) F28 (wantedG F28 rfl rfl rfl rfl rfl) (run_eqi rfl (F28.ev 33 rfl) rfl (beq_iff_eq.2 (by omega))) rfl (by decide) fun a29 F29 => ?_
        refine sr (v := (.bool true)) F29 (run_pick rfl (F29.ev 31 rfl) rfl (F29.ev 34 rfl)) rfl rfl rfl fun a30 F30 => ?_
        refine mvS F30 rfl rfl rfl rfl rfl fun a31 F31 => ?_
        refine sqSkip F31 (unwantedG F31 rfl rfl rfl rfl rfl) rfl (by decide) fun a32 F32 => ?_
        refine sqSkip F32 (unwantedG F32 rfl rfl rfl rfl rfl) rfl (by decide) fun a33 F33 => ?_
        refine sqSkip F33 (unwantedG F33 rfl rfl rfl rfl rfl) rfl (by decide) fun a34 F34 => ?_
        refine sr (v := (.bool true)) F34 (run_pick rfl (F34.ev 36 rfl) rfl (F34.ev 39 rfl)) rfl rfl rfl fun a35 F35 => ?_
        refine sn ?_
        clear F22 F23 F24 F25 F26 F27 F28 F29 F30 F31 F32 F33 F34
        refine wp_cond_true (F35.ev 40 rfl) ?_
        refine wsl ?_
        refine sr (v := (.agg (cells8 (List.replicate 32 0)))) F35 (run_blt (vs := #[]) (cs := cells8 (List.replicate 32 0)) rfl (by simp) (by kernel_rfl)) rfl rfl rfl fun a36 F36 => ?_
        refine sqStore (i := 2) F36 M5 rfl rfl rfl (F36.ev 2 rfl) (F36.ev 41 rfl) rfl sz32k (szOf List.length_replicate) (szOf List.length_replicate) (cells8_one _) fun a37 w6 F37 M6 => ?_
        refine sr (v := (.int .i64 1)) F37 (run_as rfl rfl) rfl rfl rfl fun a38 F38 => ?_
        refine sn ?_
        clear F35 F36 F37 M5
        refine wp_ret ?_
        refine nxRet ?_
        exact retBT F38 rfl rfl (M6.at 2 rfl) Tryd.underlying23 rfl sz32k (szOf List.length_replicate) rfl ⟨rfl, M6.below⟩
      · have z1n := nz _ z1
        have z2 : s2.x = 0 := hz.elim (fun h => absurd h z0) (fun h => h.elim (fun h => absurd h z1) id)
        have z2n : s2.x.toNat = 0 := by rw [z2]; rfl
        refine walk_enter Tryd.func28 rfl rfl rfl fun a0 F0 => ?_
        have M0 := Mem.new w
        refine wsl ?_
        refine sqNew (cs := (cells8 (List.replicate 32 0))) (t := 23) F0 M0 (wantedS rfl) (run_alloc rfl (by kernel_rfl)) rfl (by decide) fun g0 a1 w1 hgg0 hb1 F1 M1 => ?_
        refine sr (v := (.int .i64 0)) F1 (run_as rfl rfl) rfl rfl rfl fun a2 F2 => ?_
        refine sn ?_
        clear F0 F1 M0
        refine wp_seq ?_
        refine wsl ?_
        refine mvS F2 rfl rfl rfl rfl rfl fun a3 F3 => ?_
        refine sr F3 (run_lenS rfl (F3.ev 11 rfl) (hV.below M1.below) rfl Tryd.underlying31) rfl rfl rfl fun a4 F4 => ?_
        refine sr (v := (.bool false)) F4 (run_nei rfl (F4.ev 12 rfl) rfl (bne_eq_false_iff_eq.2 (by omega))) rfl rfl rfl fun a5 F5 => ?_
        refine sn ?_
        clear F2 F3 F4
        refine cfs (F5.ev 13 rfl) ?_
        refine wsl ?_
        refine mvS F5 rfl rfl rfl rfl rfl fun a6 F6 => ?_
        refine sr (v := (slPtr v 0)) F6 (run_arrP rfl (F6.ev 15 rfl) (hV.below M1.below) Tryd.underlying94 (by omega) (by omega)) rfl rfl rfl fun a7 F7 => ?_
        refine sr (v := (.agg (cells8 (b3 s0 s1 s2)))) F7 (run_ldPS (ys := (b3 s0 s1 s2).map cb) rfl (F7.ev 16 rfl) (hV.below M1.below) (by omega) (fun j u hj => by rw [Nat.zero_add, ← b3_flat]; exact hj) (by kernel_rfl) (by rw [List.length_map, b3_len]; kernel_rfl)) rfl rfl rfl fun a8 F8 => ?_
        refine sqNew (cs := (cells8 (List.replicate 99 0))) (t := 94) F8 M1 (wantedS rfl) (run_alloc rfl (by kernel_rfl)) rfl (by decide) fun g1 a9 w2 hgg1 hb2 F9 M2 => ?_
        refine sqStore (i := 0) F9 M2 rfl rfl rfl (F9.ev 4 rfl) (F9.ev 17 rfl) rfl sz94 (szOf (b3_len _ _ _)) (szOf List.length_replicate) (cells8_one _) fun a10 w3 F10 M3 => ?_
        refine sn ?_
        clear F5 F6 F7 F8 F9 M1 M2
        refine wsl ?_
        refine sr (v := (.pointer (some ⟨g1, 0 * 33, none⟩))) F10 (run_idx33 (i := 0) (cnt := 3) rfl (F10.ev 4 rfl) rfl rfl (by omega) Tryd.underlying94 (by kernel_rfl)) rfl rfl rfl fun a11 F11 => ?_
        refine sr (v := (.pointer (some ⟨g1, 0 * 33 + 0, none⟩))) F11 (run_fldO (m := 1) (s := 0) rfl (F11.ev 18 rfl) Tryd.underlying54 rfl rfl (by kernel_rfl) (by decide)) rfl rfl rfl fun a12 F12 => ?_
        refine sr (v := (.int .u8 (s0.x.toNat : Int))) F12 (run_ldF rfl (F12.ev 19 rfl) (M3.at 0 rfl) (b3_x (j := 0) rfl) (by kernel_rfl)) rfl rfl rfl fun a13 F13 => ?_
        refine sr (v := (.pointer (some ⟨g1, 1 * 33, none⟩))) F13 (run_idx33 (i := 1) (cnt := 3) rfl (F13.ev 4 rfl) rfl rfl (by omega) Tryd.underlying94 (by kernel_rfl)) rfl rfl rfl fun a14 F14 => ?_
        refine sr (v := (.pointer (some ⟨g1, 1 * 33 + 0, none⟩))) F14 (run_fldO (m := 1) (s := 0) rfl (F14.ev 21 rfl) Tryd.underlying54 rfl rfl (by kernel_rfl) (by decide)) rfl rfl rfl fun a15 F15 => ?_
        refine sr (v := (.int .u8 (s1.x.toNat : Int))) F15 (run_ldF rfl (F15.ev 22 rfl) (M3.at 0 rfl) (b3_x (j := 1) rfl) (by kernel_rfl)) rfl rfl rfl fun a16 F16 => ?_
        refine sr (v := (.pointer (some ⟨g1, 2 * 33, none⟩))) F16 (run_idx33 (i := 2) (cnt := 3) rfl (F16.ev 4 rfl) rfl rfl (by omega) Tryd.underlying94 (by kernel_rfl)) rfl rfl rfl fun a17 F17 => ?_
        refine sr (v := (.pointer (some ⟨g1, 2 * 33 + 0, none⟩))) F17 (run_fldO (m := 1) (s := 0) rfl (F17.ev 24 rfl) Tryd.underlying54 rfl rfl (by kernel_rfl) (by decide)) rfl rfl rfl fun a18 F18 => ?_
        refine sr (v := (.int .u8 (s2.x.toNat : Int))) F18 (run_ldF rfl (F18.ev 25 rfl) (M3.at 0 rfl) (b3_x (j := 2) rfl) (by kernel_rfl)) rfl rfl rfl fun a19 F19 => ?_
        refine sr (v := (.agg (cells8 [s0.x, s1.x, s2.x]))) F19 (run_blt (vs := #[(0, .int .u8 (s0.x.toNat : Int)), (1, .int .u8 (s1.x.toNat : Int)), (2, .int .u8 (s2.x.toNat : Int))]) (cs := cells8 [s0.x, s1.x, s2.x]) rfl (bltE3 (F19.ev 20 rfl) (F19.ev 23 rfl) (F19.ev 26 rfl)) rfl) rfl rfl rfl fun a20 F20 => ?_
        refine sqNew (cs := (cells8 (List.replicate 3 0))) (t := 47) F20 M3 (wantedS rfl) (run_alloc rfl (by kernel_rfl)) rfl (by decide) fun g2 a21 w4 hgg2 hb4 F21 M4 => ?_
        refine sqStore (i := 0) F21 M4 rfl rfl rfl (F21.ev 5 rfl) (F21.ev 27 rfl) rfl sz47 (szOf rfl) (szOf List.length_replicate) (cells8_one _) fun a22 w5 F22 M5 => ?_
        refine sn ?_
        clear F10 F11 F12 F13 F14 F15 F16 F17 F18 F19 F20 F21 M3 M4
        refine wp_seq ?_
        refine wsl ?_
        refine sr (v := (.pointer (some ⟨g2, 0, none⟩))) F22 (run_idxA (i := 0) (cnt := 3) rfl (F22.ev 5 rfl) rfl rfl (by omega) Tryd.underlying47 (by kernel_rfl)) rfl rfl rfl fun a23 F23 => ?_
        refine sr (v := (.int .u8 (s0.x.toNat : Int))) F23 (run_ldF rfl (F23.ev 28 rfl) (M5.at 0 rfl) rfl (by kernel_rfl)) rfl rfl rfl fun a24 F24 => ?_
        refine sr (v := (.bool false)) F24 (run_eqi rfl (F24.ev 29 rfl) rfl (beq_eq_false_iff_ne.2 (by omega))) rfl rfl rfl fun a25 F25 => ?_
        refine mvS F25 rfl rfl rfl rfl rfl fun a26 F26 => ?_
        refine sq (v := (.pointer (some ⟨g2, 1, none⟩))) F26 (wantedG F26 rfl rfl rfl rfl rfl) (run_idxA (i := 1) (cnt := 3) rfl (F26.ev 5 rfl) rfl rfl (by omega) Tryd.underlying47 (by kernel_rfl)) rfl (by decide) fun a27 F27 => ?_
        refine sq (v := (.int .u8 (s1.x.toNat : Int))) F27 (wantedG F27 rfl rfl rfl rfl rfl) (run_ldF rfl (F27.ev 32 rfl) (M5.at 0 rfl) rfl (by kernel_rfl)) rfl (by decide) fun a28 F28 => ?_
        refine sq (v := (.bool false)) F28 (wantedG F28 rfl rfl rfl rfl rfl) (run_eqi rfl (F28.ev 33 rfl) rfl (beq_eq_false_iff_ne.2 (by omega))) rfl (by decide) fun a29 F29 => ?_
        refine sr (v := (.bool false)) F29 (run_pick rfl (F29.ev 31 rfl) rfl (F29.ev 34 rfl)) rfl rfl rfl fun a30 F30 => ?_
        refine mvS F30 rfl rfl rfl rfl rfl fun a31 F31 => ?_
        refine sq (v := (.pointer (some ⟨g2, 2, none⟩))) F31 (wantedG F31 rfl rfl rfl rfl rfl) (run_idxA (i := 2) (cnt := 3) rfl (F31.ev 5 rfl) rfl rfl (by omega) Tryd.underlying47 (by kernel_rfl)) rfl (by decide) fun a32 F32 => ?_
        refine sq (v := (.int .u8 (s2.x.toNat : Int))) F32 (wantedG F32 rfl rfl rfl rfl rfl) (run_ldF rfl (F32.ev 37 rfl) (M5.at 0 rfl) rfl (by kernel_rfl)) rfl (by decide) fun a33 F33 => ?_
        refine sq (v := (.bool true)) F33 (wantedG F33 rfl rfl rfl rfl rfl) (run_eqi rfl (F33.ev 38 rfl) rfl (beq_iff_eq.2 (by omega))) rfl (by decide) fun a34 F34 => ?_
        refine sr (v := (.bool true)) F34 (run_pick rfl (F34.ev 36 rfl) rfl (F34.ev 39 rfl)) rfl rfl rfl fun a35 F35 => ?_
        refine sn ?_
        clear F22 F23 F24 F25 F26 F27 F28 F29 F30 F31 F32 F33 F34
        refine wp_cond_true (F35.ev 40 rfl) ?_
        refine wsl ?_
        refine sr (v := (.agg (cells8 (List.replicate 32 0)))) F35 (run_blt (vs := #[]) (cs := cells8 (List.replicate 32 0)) rfl (by simp) (by kernel_rfl)) rfl rfl rfl fun a36 F36 => ?_
        refine sqStore (i := 2) F36 M5 rfl rfl rfl (F36.ev 2 rfl) (F36.ev 41 rfl) rfl sz32k (szOf List.length_replicate) (szOf List.length_replicate) (cells8_one _) fun a37 w6 F37 M6 => ?_
        refine sr (v := (.int .i64 1)) F37 (run_as rfl rfl) rfl rfl rfl fun a38 F38 => ?_
        refine sn ?_
        clear F35 F36 F37 M5
        refine wp_ret ?_
        refine nxRet ?_
        exact retBT F38 rfl rfl (M6.at 2 rfl) Tryd.underlying23 rfl sz32k (szOf List.length_replicate) rfl ⟨rfl, M6.below⟩
  · have nz : ∀ x : UInt8, x ≠ 0 → x.toNat ≠ 0 := fun x h e => h (UInt8.toNat_inj.1 e)
    have z0n := nz s0.x (fun h => hz (.inl h))
    have z1n := nz s1.x (fun h => hz (.inr (.inl h)))
    have z2n := nz s2.x (fun h => hz (.inr (.inr h)))
    refine walk_enter Tryd.func28 rfl rfl rfl fun a0 F0 => ?_
    have M0 := Mem.new w
    refine wsl ?_
    refine sqNew (cs := (cells8 (List.replicate 32 0))) (t := 23) F0 M0 (wantedS rfl) (run_alloc rfl (by kernel_rfl)) rfl (by decide) fun g0 a1 w1 hgg0 hb1 F1 M1 => ?_
    refine sr (v := (.int .i64 0)) F1 (run_as rfl rfl) rfl rfl rfl fun a2 F2 => ?_
    refine sn ?_
    clear F0 F1 M0
    refine wp_seq ?_
    refine wsl ?_
    refine mvS F2 rfl rfl rfl rfl rfl fun a3 F3 => ?_
    refine sr F3 (run_lenS rfl (F3.ev 11 rfl) (hV.below M1.below) rfl Tryd.underlying31) rfl rfl rfl fun a4 F4 => ?_
    refine sr (v := (.bool false)) F4 (run_nei rfl (F4.ev 12 rfl) rfl (bne_eq_false_iff_eq.2 (by omega))) rfl rfl rfl fun a5 F5 => ?_
    refine sn ?_
    clear F2 F3 F4
    refine cfs (F5.ev 13 rfl) ?_
    refine wsl ?_
    refine mvS F5 rfl rfl rfl rfl rfl fun a6 F6 => ?_
    refine sr (v := (slPtr v 0)) F6 (run_arrP rfl (F6.ev 15 rfl) (hV.below M1.below) Tryd.underlying94 (by omega) (by omega)) rfl rfl rfl fun a7 F7 => ?_
    refine sr (v := (.agg (cells8 (b3 s0 s1 s2)))) F7 (run_ldPS (ys := (b3 s0 s1 s2).map cb) rfl (F7.ev 16 rfl) (hV.below M1.below) (by omega) (fun j u hj => by rw [Nat.zero_add, ← b3_flat]; exact hj) (by kernel_rfl) (by rw [List.length_map, b3_len]; kernel_rfl)) rfl rfl rfl fun a8 F8 => ?_
    refine sqNew (cs := (cells8 (List.replicate 99 0))) (t := 94) F8 M1 (wantedS rfl) (run_alloc rfl (by kernel_rfl)) rfl (by decide) fun g1 a9 w2 hgg1 hb2 F9 M2 => ?_
    refine sqStore (i := 0) F9 M2 rfl rfl rfl (F9.ev 4 rfl) (F9.ev 17 rfl) rfl sz94 (szOf (b3_len _ _ _)) (szOf List.length_replicate) (cells8_one _) fun a10 w3 F10 M3 => ?_
    refine sn ?_
    clear F5 F6 F7 F8 F9 M1 M2
    refine wsl ?_
    refine sr (v := (.pointer (some ⟨g1, 0 * 33, none⟩))) F10 (run_idx33 (i := 0) (cnt := 3) rfl (F10.ev 4 rfl) rfl rfl (by omega) Tryd.underlying94 (by kernel_rfl)) rfl rfl rfl fun a11 F11 => ?_
    refine sr (v := (.pointer (some ⟨g1, 0 * 33 + 0, none⟩))) F11 (run_fldO (m := 1) (s := 0) rfl (F11.ev 18 rfl) Tryd.underlying54 rfl rfl (by kernel_rfl) (by decide)) rfl rfl rfl fun a12 F12 => ?_
    refine sr (v := (.int .u8 (s0.x.toNat : Int))) F12 (run_ldF rfl (F12.ev 19 rfl) (M3.at 0 rfl) (b3_x (j := 0) rfl) (by kernel_rfl)) rfl rfl rfl fun a13 F13 => ?_
    refine sr (v := (.pointer (some ⟨g1, 1 * 33, none⟩))) F13 (run_idx33 (i := 1) (cnt := 3) rfl (F13.ev 4 rfl) rfl rfl (by omega) Tryd.underlying94 (by kernel_rfl)) rfl rfl rfl fun a14 F14 => ?_
    refine sr (v := (.pointer (some ⟨g1, 1 * 33 + 0, none⟩))) F14 (run_fldO (m := 1) (s := 0) rfl (F14.ev 21 rfl) Tryd.underlying54 rfl rfl (by kernel_rfl) (by decide)) rfl rfl rfl fun a15 F15 => ?_
    refine sr (v := (.int .u8 (s1.x.toNat : Int))) F15 (run_ldF rfl (F15.ev 22 rfl) (M3.at 0 rfl) (b3_x (j := 1) rfl) (by kernel_rfl)) rfl rfl rfl fun a16 F16 => ?_
    refine sr (v := (.pointer (some ⟨g1, 2 * 33, none⟩))) F16 (run_idx33 (i := 2) (cnt := 3) rfl (F16.ev 4 rfl) rfl rfl (by omega) Tryd.underlying94 (by kernel_rfl)) rfl rfl rfl fun a17 F17 => ?_
    refine sr (v := (.pointer (some ⟨g1, 2 * 33 + 0, none⟩))) F17 (run_fldO (m := 1) (s := 0) rfl (F17.ev 24 rfl) Tryd.underlying54 rfl rfl (by kernel_rfl) (by decide)) rfl rfl rfl fun a18 F18 => ?_
    refine sr (v := (.int .u8 (s2.x.toNat : Int))) F18 (run_ldF rfl (F18.ev 25 rfl) (M3.at 0 rfl) (b3_x (j := 2) rfl) (by kernel_rfl)) rfl rfl rfl fun a19 F19 => ?_
    refine sr (v := (.agg (cells8 [s0.x, s1.x, s2.x]))) F19 (run_blt (vs := #[(0, .int .u8 (s0.x.toNat : Int)), (1, .int .u8 (s1.x.toNat : Int)), (2, .int .u8 (s2.x.toNat : Int))]) (cs := cells8 [s0.x, s1.x, s2.x]) rfl (bltE3 (F19.ev 20 rfl) (F19.ev 23 rfl) (F19.ev 26 rfl)) rfl) rfl rfl rfl fun a20 F20 => ?_
    refine sqNew (cs := (cells8 (List.replicate 3 0))) (t := 47) F20 M3 (wantedS rfl) (run_alloc rfl (by kernel_rfl)) rfl (by decide) fun g2 a21 w4 hgg2 hb4 F21 M4 => ?_
    refine sqStore (i := 0) F21 M4 rfl rfl rfl (F21.ev 5 rfl) (F21.ev 27 rfl) rfl sz47 (szOf rfl) (szOf List.length_replicate) (cells8_one _) fun a22 w5 F22 M5 => ?_
    refine sn ?_
    clear F10 F11 F12 F13 F14 F15 F16 F17 F18 F19 F20 F21 M3 M4
    refine wp_seq ?_
    refine wsl ?_
    refine sr (v := (.pointer (some ⟨g2, 0, none⟩))) F22 (run_idxA (i := 0) (cnt := 3) rfl (F22.ev 5 rfl) rfl rfl (by omega) Tryd.underlying47 (by kernel_rfl)) rfl rfl rfl fun a23 F23 => ?_
    refine sr (v := (.int .u8 (s0.x.toNat : Int))) F23 (run_ldF rfl (F23.ev 28 rfl) (M5.at 0 rfl) rfl (by kernel_rfl)) rfl rfl rfl fun a24 F24 => ?_
    refine sr (v := (.bool false)) F24 (run_eqi rfl (F24.ev 29 rfl) rfl (beq_eq_false_iff_ne.2 (by omega))) rfl rfl rfl fun a25 F25 => ?_
    refine mvS F25 rfl rfl rfl rfl rfl fun a26 F26 => ?_
    refine sq (v := (.pointer (some ⟨g2, 1, none⟩))) F26 (wantedG F26 rfl rfl rfl rfl rfl) (run_idxA (i := 1) (cnt := 3) rfl (F26.ev 5 rfl) rfl rfl (by omega) Tryd.underlying47 (by kernel_rfl)) rfl (by decide) fun a27 F27 => ?_
    refine sq (v := (.int .u8 (s1.x.toNat : Int))) F27 (wantedG F27 rfl rfl rfl rfl rfl) (run_ldF rfl (F27.ev 32 rfl) (M5.at 0 rfl) rfl (by kernel_rfl)) rfl (by decide) fun a28 F28 => ?_
    refine sq (v := (.bool false)) F28 (wantedG F28 rfl rfl rfl rfl rfl) (run_eqi rfl (F28.ev 33 rfl) rfl (beq_eq_false_iff_ne.2 (by omega))) rfl (by decide) fun a29 F29 => ?_
    refine sr (v := (.bool false)) F29 (run_pick rfl (F29.ev 31 rfl) rfl (F29.ev 34 rfl)) rfl rfl rfl fun a30 F30 => ?_
    refine mvS F30 rfl rfl rfl rfl rfl fun a31 F31 => ?_
    refine sq (v := (.pointer (some ⟨g2, 2, none⟩))) F31 (wantedG F31 rfl rfl rfl rfl rfl) (run_idxA (i := 2) (cnt := 3) rfl (F31.ev 5 rfl) rfl rfl (by omega) Tryd.underlying47 (by kernel_rfl)) rfl (by decide) fun a32 F32 => ?_
    refine sq (v := (.int .u8 (s2.x.toNat : Int))) F32 (wantedG F32 rfl rfl rfl rfl rfl) (run_ldF rfl (F32.ev 37 rfl) (M5.at 0 rfl) rfl (by kernel_rfl)) rfl (by decide) fun a33 F33 => ?_
    refine sq (v := (.bool false)) F33 (wantedG F33 rfl rfl rfl rfl rfl) (run_eqi rfl (F33.ev 38 rfl) rfl (beq_eq_false_iff_ne.2 (by omega))) rfl (by decide) fun a34 F34 => ?_
    refine sr (v := (.bool false)) F34 (run_pick rfl (F34.ev 36 rfl) rfl (F34.ev 39 rfl)) rfl rfl rfl fun a35 F35 => ?_
    refine sn ?_
    clear F22 F23 F24 F25 F26 F27 F28 F29 F30 F31 F32 F33 F34
    refine cfs (F35.ev 40 rfl) ?_
    refine wsl ?_
    refine sqNew (cs := (cells8 (List.replicate 32 0))) (t := 23) F35 M5 (wantedS rfl) (run_alloc rfl (by kernel_rfl)) rfl (by decide) fun g3 a36 w6 hgg3 hb6 F36 M6 => ?_
    refine sn ?_
    clear F35 M5
    refine wp_seq ?_
    refine wsl ?_
    refine sr (v := (.int .i64 0)) F36 (run_mv rfl rfl) rfl rfl rfl fun a37 F37 => ?_
    refine sn ?_
    clear F36
    refine wp_block ?_
    refine wkLoop (fun m a0 w2 => ∃ i : Nat, i ≤ 32 ∧ m = 32 - i ∧ (0 < i → [s0.x, s1.x, s2.x].Nodup) ∧ Fr a0 75 [(2, .pointer (some ⟨g0, 0, none⟩)), (3, .int .i64 0), (4, .pointer (some ⟨g1, 0, none⟩)), (5, .pointer (some ⟨g2, 0, none⟩)), (6, .pointer (some ⟨g3, 0, none⟩)), (42, .int .i64 (i : Int))] ∧ Mem w [(g3, isB 23 (cells8 (keyT s0 s1 s2 i))), (g2, isB 47 (cells8 [s0.x, s1.x, s2.x])), (g1, isB 94 (cells8 (b3 s0 s1 s2))), (g0, isB 23 (cells8 (List.replicate 32 0)))] w2) 32 ⟨0, Nat.zero_le _, rfl, fun h => absurd h (Nat.lt_irrefl 0), F37.sub ⟨rfl, rfl, rfl, rfl, rfl, rfl, trivial⟩, by rw [← keyT_zero]; exact M6⟩ ?_
    rintro m a0 w1 ⟨i, hi, rfl, hN, F0, M0⟩
    have hKl : (keyT s0 s1 s2 i).length = 32 := keyT_len _ _ _ _
    by_cases h1 : i < 32
    · by_cases hn : [s0.x, s1.x, s2.x].Nodup
      · skip
        refine wsl ?_
        refine sr (v := (.bool true)) F0 (run_lss rfl (F0.ev 42 rfl) rfl (decide_eq_true (by omega))) rfl rfl rfl fun a1 F1 => ?_
        refine sn ?_
        clear F0
        refine wp_seq ?_
        refine cts (F1.ev 43 rfl) ?_
        refine wp_seq ?_
        refine wp_block ?_
        refine wsl ?_
        refine mvS F1 rfl rfl rfl rfl rfl fun a2 F2 => ?_
        refine asS F2 rfl rfl rfl rfl rfl fun a3 F3 => ?_
        refine sn ?_
        clear F1 F2
        refine wp_seq ?_
        obtain ⟨KL, hKL⟩ : ∃ KL, KL = [kval (.int .i64 (i : Int)), kval (.pointer (some ⟨g1, 0 * 33, none⟩)), kval (.pointer (some ⟨g1, 0 * 33 + 1, none⟩)), kval (.pointer (some ⟨g1, 0 * 33 + 1 + i, none⟩)), kval (.int .u8 ((s0.d.getD i 0).toNat : Int)), kval (.int .i64 (i : Int)), kval (.pointer (some ⟨g1, 1 * 33, none⟩)), kval (.pointer (some ⟨g1, 1 * 33 + 1, none⟩)), kval (.pointer (some ⟨g1, 1 * 33 + 1 + i, none⟩)), kval (.int .u8 ((s1.d.getD i 0).toNat : Int)), kval (.int .i64 (i : Int)), kval (.pointer (some ⟨g1, 2 * 33, none⟩)), kval (.pointer (some ⟨g1, 2 * 33 + 1, none⟩)), kval (.pointer (some ⟨g1, 2 * 33 + 1 + i, none⟩)), kval (.int .u8 ((s2.d.getD i 0).toNat : Int)), kval (.agg (cells8 [(s0.d.getD i 0), (s1.d.getD i 0), (s2.d.getD i 0)])), kptr w1.heap.size 47 (cells8 (List.replicate 3 0))] := ⟨_, rfl⟩
        have K0 := getK hKL 0
        have K1 := getK hKL 1
        have K2 := getK hKL 2
        have K3 := getK hKL 3
        have K4 := getK hKL 4
        have K5 := getK hKL 5
        have K6 := getK hKL 6
        have K7 := getK hKL 7
        have K8 := getK hKL 8
        have K9 := getK hKL 9
        have K10 := getK hKL 10
        have K11 := getK hKL 11
        have K12 := getK hKL 12
        have K13 := getK hKL 13
        have K14 := getK hKL 14
        have K15 := getK hKL 15
        have K16 := getK hKL 16
        have HKL : KL.length ≤ 17 := by rw [hKL]; exact Nat.le_refl _
        clear hKL
        refine wp_region_kdTail2 75 17 (by kernel_rfl) (by kernel_rfl) (by kernel_rfl) (by kernel_rfl) F3.size KL HKL ?_ ?_
        · refine ⟨?_, ?_, ?_, ?_, ?_, ?_, ?_, ?_, ?_, ?_, ?_, ?_, ?_, ?_, ?_, ?_, ?_, trivial⟩
          · exact asksHY rfl fun a W hS hh hd => giv_run (run_mv rfl (eval_tmp (hh 7 _ rfl (F3.at 7 rfl)))) K0
          · exact asksHY rfl fun a W hS hh hd => giv_run (run_idx33 (i := 0) (cnt := 3) rfl (eval_tmp (hh 4 _ rfl (F3.at 4 rfl))) rfl rfl (by omega) Tryd.underlying94 (by kernel_rfl)) K1
          · exact asksHY rfl fun a W hS hh hd => giv_run (run_fldO (m := 32) (s := 1) rfl (eval_tmp (hd.vl 1 46 (by kernel_rfl) K1)) Tryd.underlying54 rfl rfl (by kernel_rfl) (by decide)) K2
          · exact asksHY rfl fun a W hS hh hd => giv_run (run_idxO (i := i) (cnt := 32) rfl (eval_tmp (hd.vl 2 47 (by kernel_rfl) K2)) (eval_tmp (hd.vl 0 45 (by kernel_rfl) K0)) rfl (by omega) Tryd.underlying23 (by kernel_rfl)) K3
          · exact asksHY rfl fun a W hS hh hd => giv_run (run_ldF rfl (eval_tmp (hd.vl 3 48 (by kernel_rfl) K3)) ((M0.grow hS).at 2 rfl) (b3_d (j := 0) rfl h1) (by kernel_rfl)) K4
          · exact asksHY rfl fun a W hS hh hd => giv_run (run_mv rfl (eval_tmp (hh 7 _ rfl (F3.at 7 rfl)))) K5
          · exact asksHY rfl fun a W hS hh hd => giv_run (run_idx33 (i := 1) (cnt := 3) rfl (eval_tmp (hh 4 _ rfl (F3.at 4 rfl))) rfl rfl (by omega) Tryd.underlying94 (by kernel_rfl)) K6
          · exact asksHY rfl fun a W hS hh hd => giv_run (run_fldO (m := 32) (s := 1) rfl (eval_tmp (hd.vl 6 51 (by kernel_rfl) K6)) Tryd.underlying54 rfl rfl (by kernel_rfl) (by decide)) K7
          · exact asksHY rfl fun a W hS hh hd => giv_run (run_idxO (i := i) (cnt := 32) rfl (eval_tmp (hd.vl 7 52 (by kernel_rfl) K7)) (eval_tmp (hd.vl 5 50 (by kernel_rfl) K5)) rfl (by omega) Tryd.underlying23 (by kernel_rfl)) K8
          · exact asksHY rfl fun a W hS hh hd => giv_run (run_ldF rfl (eval_tmp (hd.vl 8 53 (by kernel_rfl) K8)) ((M0.grow hS).at 2 rfl) (b3_d (j := 1) rfl h1) (by kernel_rfl)) K9
          · exact asksHY rfl fun a W hS hh hd => giv_run (run_mv rfl (eval_tmp (hh 7 _ rfl (F3.at 7 rfl)))) K10
          · exact asksHY rfl fun a W hS hh hd => giv_run (run_idx33 (i := 2) (cnt := 3) rfl (eval_tmp (hh 4 _ rfl (F3.at 4 rfl))) rfl rfl (by omega) Tryd.underlying94 (by kernel_rfl)) K11
          · exact asksHY rfl fun a W hS hh hd => giv_run (run_fldO (m := 32) (s := 1) rfl (eval_tmp (hd.vl 11 56 (by kernel_rfl) K11)) Tryd.underlying54 rfl rfl (by kernel_rfl) (by decide)) K12
          · exact asksHY rfl fun a W hS hh hd => giv_run (run_idxO (i := i) (cnt := 32) rfl (eval_tmp (hd.vl 12 57 (by kernel_rfl) K12)) (eval_tmp (hd.vl 10 55 (by kernel_rfl) K10)) rfl (by omega) Tryd.underlying23 (by kernel_rfl)) K13
          · exact asksHY rfl fun a W hS hh hd => giv_run (run_ldF rfl (eval_tmp (hd.vl 13 58 (by kernel_rfl) K13)) ((M0.grow hS).at 2 rfl) (b3_d (j := 2) rfl h1) (by kernel_rfl)) K14
          · exact asksHY rfl fun a W hS hh hd => giv_run (run_blt (vs := #[(0, .int .u8 ((s0.d.getD i 0).toNat : Int)), (1, .int .u8 ((s1.d.getD i 0).toNat : Int)), (2, .int .u8 ((s2.d.getD i 0).toNat : Int))]) (cs := cells8 [(s0.d.getD i 0), (s1.d.getD i 0), (s2.d.getD i 0)]) rfl (bltE3 (eval_tmp (hd.vl 4 49 (by kernel_rfl) K4)) (eval_tmp (hd.vl 9 54 (by kernel_rfl) K9)) (eval_tmp (hd.vl 14 59 (by kernel_rfl) K14))) rfl) K15
          · exact asksHY rfl fun a W hS hh hd => giv_alloc hS.size 47 (cells8 (List.replicate 3 0)) (run_alloc rfl (by kernel_rfl)) K16
        · intro a4 w2 hb2 hK
          have e0 := hK.hvl 0 45 rfl (by kernel_rfl) K0
          have e1 := hK.hvl 1 46 rfl (by kernel_rfl) K1
          have e2 := hK.hvl 2 47 rfl (by kernel_rfl) K2
          have e3 := hK.hvl 3 48 rfl (by kernel_rfl) K3
          have e4 := hK.hvl 4 49 rfl (by kernel_rfl) K4
          have e5 := hK.hvl 5 50 rfl (by kernel_rfl) K5
          have e6 := hK.hvl 6 51 rfl (by kernel_rfl) K6
          have e7 := hK.hvl 7 52 rfl (by kernel_rfl) K7
          have e8 := hK.hvl 8 53 rfl (by kernel_rfl) K8
          have e9 := hK.hvl 9 54 rfl (by kernel_rfl) K9
          have e10 := hK.hvl 10 55 rfl (by kernel_rfl) K10
          have e11 := hK.hvl 11 56 rfl (by kernel_rfl) K11
          have e12 := hK.hvl 12 57 rfl (by kernel_rfl) K12
          have e13 := hK.hvl 13 58 rfl (by kernel_rfl) K13
          have e14 := hK.hvl 14 59 rfl (by kernel_rfl) K14
          have e15 := hK.hvl 15 60 rfl (by kernel_rfl) K15
          obtain ⟨v4, e16, hpv4⟩ := hK.hget (i := 16) (s := 8) rfl (by kernel_rfl)
          rw [K16] at hpv4
          obtain ⟨g5, hgg5, rfl, hBg5⟩ := hpv4
          have F4 : Fr a4 75 [(2, (.pointer (some ⟨g0, 0, none⟩))), (3, (.int .i64 0)), (4, (.pointer (some ⟨g1, 0, none⟩))), (5, (.pointer (some ⟨g2, 0, none⟩))), (6, (.pointer (some ⟨g3, 0, none⟩))), (7, (.int .i64 (i : Int))), (8, (.pointer (some ⟨g5, 0, none⟩))), (42, (.int .i64 (i : Int))), (43, (.bool true)), (44, (.int .i64 (i : Int))), (60, (.agg (cells8 [(s0.d.getD i 0), (s1.d.getD i 0), (s2.d.getD i 0)])))] := (hK.hfr F3 [_, _, _, _, _, _, _, _, _, _, _, _, _, _, _, _, _] ⟨e0, e1, e2, e3, e4, e5, e6, e7, e8, e9, e10, e11, e12, e13, e14, e15, e16, trivial⟩).sub ⟨rfl, rfl, rfl, rfl, rfl, rfl, rfl, rfl, rfl, rfl, rfl, trivial⟩
          have M1 := M0.add hb2 hgg5 hBg5
          clear hK K0 e0 K1 e1 K2 e2 K3 e3 K4 e4 K5 e5 K6 e6 K7 e7 K8 e8 K9 e9 K10 e10 K11 e11 K12 e12 K13 e13 K14 e14 K15 e15 K16 e16 HKL
          simp only [List.drop_succ_cons, List.drop_zero]
          refine sqStore (i := 0) F4 M1 rfl rfl rfl (F4.ev 8 rfl) (F4.ev 60 rfl) rfl sz47 (szOf rfl) (szOf List.length_replicate) (cells8_one _) fun a5 w3 F5 M2 => ?_
          refine sn ?_
          clear F3 F4 M0 M1
          refine wp_seq ?_
          obtain ⟨KL, hKL⟩ : ∃ KL, KL = [kval (.slice (some ⟨g2, 0, none⟩) 3 3), kval (.slice (some ⟨g5, 0, none⟩) 3 3), kval (.tuple #[(.int .u8 ((atT [s0.x, s1.x, s2.x] [s0.d.getD i 0, s1.d.getD i 0, s2.d.getD i 0] 0 3).toNat : Int)), (.bool true)]), kval (.tuple #[(.int .u8 ((atT [s0.x, s1.x, s2.x] [s0.d.getD i 0, s1.d.getD i 0, s2.d.getD i 0] 0 3).toNat : Int)), (.bool true)]), kval (.int .u8 ((atT [s0.x, s1.x, s2.x] [s0.d.getD i 0, s1.d.getD i 0, s2.d.getD i 0] 0 3).toNat : Int)), kval (.bool true), kval (.int .u8 ((atT [s0.x, s1.x, s2.x] [s0.d.getD i 0, s1.d.getD i 0, s2.d.getD i 0] 0 3).toNat : Int)), kval (.bool true)] := ⟨_, rfl⟩
          have K0 := getK hKL 0
          have K1 := getK hKL 1
          have K2 := getK hKL 2
          have K3 := getK hKL 3
          have K4 := getK hKL 4
          have K5 := getK hKL 5
          have K6 := getK hKL 6
          have K7 := getK hKL 7
          clear hKL
          refine wp_region_kd 75 (by kernel_rfl) (by kernel_rfl) (by kernel_rfl) F5.size KL ?_ ?_
          · refine ⟨?_, ?_, ?_, ?_, ?_, ?_, ?_, ?_, trivial⟩
            · exact asksY rfl fun a W hS hh hd => giv_run (run_slA rfl (eval_tmp (hh 5 _ rfl (F5.at 5 rfl))) (run_sliceArr_all (P := Tryd.prog) Tryd.underlying47 so8 g2 0 (by decide) _)) K0
            · exact asksY rfl fun a W hS hh hd => giv_run (run_slA rfl (eval_tmp (hh 8 _ rfl (F5.at 8 rfl))) (run_sliceArr_all (P := Tryd.prog) Tryd.underlying47 so8 g5 0 (by decide) _)) K1
            · exact asksY rfl fun a W hS hh hd => giv_call (run_call rfl Tryd.func56 (by kernel_rfl) rfl (mapE3 (eval_tmp (hd.vl 0 62 (by kernel_rfl) K0)) (eval_tmp (hd.vl 1 63 (by kernel_rfl) K1)) rfl)) ((by have h := fat_any [s0.x, s1.x, s2.x] [s0.d.getD i 0, s1.d.getD i 0, s2.d.getD i 0] (.slice (some ⟨g2, 0, none⟩) 3 3) (.slice (some ⟨g5, 0, none⟩) 3 3) 0 W (slOfB rfl ((M2.grow hS).at 2 rfl)) (slOfB rfl ((M2.grow hS).at 0 rfl)) rfl (by simp); rw [if_pos hn] at h; exact h)) K2
            · exact asksY rfl fun a W hS hh hd => giv_run (run_mv rfl (eval_tmp (hd.vl 2 64 (by kernel_rfl) K2))) K3
            · exact asksY rfl fun a W hS hh hd => giv_run (run_ext rfl (eval_tmp (hd.vl 3 61 (by kernel_rfl) K3)) rfl) K4
            · exact asksY rfl fun a W hS hh hd => giv_run (run_ext rfl (eval_tmp (hd.vl 3 61 (by kernel_rfl) K3)) rfl) K5
            · exact asksY rfl fun a W hS hh hd => giv_run (run_as rfl (eval_tmp (hd.vl 4 65 (by kernel_rfl) K4))) K6
            · exact asksY rfl fun a W hS hh hd => giv_run (run_as rfl (eval_tmp (hd.vl 5 66 (by kernel_rfl) K5))) K7
          · intro a6 w4 hb4 hK
            have e0 := hK.vl 0 62 (by kernel_rfl) K0
            have e1 := hK.vl 1 63 (by kernel_rfl) K1
            have e2 := hK.vl 2 64 (by kernel_rfl) K2
            have e3 := hK.vl 3 61 (by kernel_rfl) K3
            have e4 := hK.vl 4 65 (by kernel_rfl) K4
            have e5 := hK.vl 5 66 (by kernel_rfl) K5
            have e6 := hK.vl 6 9 (by kernel_rfl) K6
            have e7 := hK.vl 7 10 (by kernel_rfl) K7
            have F6 : Fr a6 75 [(2, (.pointer (some ⟨g0, 0, none⟩))), (3, (.int .i64 0)), (4, (.pointer (some ⟨g1, 0, none⟩))), (5, (.pointer (some ⟨g2, 0, none⟩))), (6, (.pointer (some ⟨g3, 0, none⟩))), (7, (.int .i64 (i : Int))), (8, (.pointer (some ⟨g5, 0, none⟩))), (9, (.int .u8 ((atT [s0.x, s1.x, s2.x] [s0.d.getD i 0, s1.d.getD i 0, s2.d.getD i 0] 0 3).toNat : Int))), (10, (.bool true)), (42, (.int .i64 (i : Int))), (43, (.bool true)), (44, (.int .i64 (i : Int))), (60, (.agg (cells8 [(s0.d.getD i 0), (s1.d.getD i 0), (s2.d.getD i 0)])))] := (hK.fr F5 [_, _, _, _, _, _, _, _] ⟨e0, e1, e2, e3, e4, e5, e6, e7, trivial⟩).sub ⟨rfl, rfl, rfl, rfl, rfl, rfl, rfl, rfl, rfl, rfl, rfl, rfl, rfl, trivial⟩
            have M3 := M2.grow hb4
            clear hK K0 e0 K1 e1 K2 e2 K3 e3 K4 e4 K5 e5 K6 e6 K7 e7
            clear F5 M2
            refine nx ?_
            refine wp_seq ?_
            refine wsl ?_
            refine mvS F6 rfl rfl rfl rfl rfl fun a7 F7 => ?_
            refine sr (v := (.bool false)) F7 (run_not rfl (F7.ev 67 rfl)) rfl rfl rfl fun a8 F8 => ?_
            refine sn ?_
            clear F6 F7
            refine cfs (F8.ev 68 rfl) ?_
            refine wp_region_lit ?_
            refine mvS F8 rfl rfl rfl rfl rfl fun a9 F9 => ?_
            refine mvS F9 rfl rfl rfl rfl rfl fun a10 F10 => ?_
            refine sr (v := (.pointer (some ⟨g3, i, none⟩))) F10 (run_idxA (i := i) (cnt := 32) rfl (F10.ev 6 rfl) (F10.ev 70 rfl) rfl (by omega) Tryd.underlying23 (by kernel_rfl)) rfl rfl rfl fun a11 F11 => ?_
            refine sqSetA (j := 1) (l := (keyT s0 s1 s2 i)) F11 M3 rfl rfl rfl (F11.ev 72 rfl) (F11.ev 71 rfl) rfl (by omega) fun a12 w5 F12 M4 => ?_
            refine sqEnd ?_
            clear F8 F9 F10 F11 M3
            refine bkEnd ?_
            refine nx ?_
            refine wp_region_lit ?_
            refine sr F12 (run_add (r := ((i + 1 : Nat) : Int)) rfl (F12.ev 42 rfl) rfl (by rw [IntKind.wrap_i64]; omega)) rfl rfl rfl fun a13 F13 => ?_
            refine mvS F13 rfl rfl rfl rfl rfl fun a14 F14 => ?_
            refine sn ?_
            clear F12 F13
            exact ⟨_, by omega, i + 1, by omega, rfl, fun _ => hn, F14.sub ⟨rfl, rfl, rfl, rfl, rfl, rfl, trivial⟩, by rw [← keyT_step (i := i) rfl]; exact M4.sub (.cons _ (.cons_cons _ (.cons_cons _ (.cons_cons _ (.cons_cons _ .slnil)))))⟩
      · have hJ : joinT [s0, s1, s2] = none := by rw [joinT, if_neg hz, if_neg hn]
        rw [hJ]
        refine wsl ?_
        refine sr (v := (.bool true)) F0 (run_lss rfl (F0.ev 42 rfl) rfl (decide_eq_true (by omega))) rfl rfl rfl fun a1 F1 => ?_
        refine sn ?_
        clear F0
        refine wp_seq ?_
        refine cts (F1.ev 43 rfl) ?_
        refine wp_seq ?_
        refine wp_block ?_
        refine wsl ?_
        refine mvS F1 rfl rfl rfl rfl rfl fun a2 F2 => ?_
        refine asS F2 rfl rfl rfl rfl rfl fun a3 F3 => ?_
        refine sn ?_
        clear F1 F2
        refine wp_seq ?_
        obtain ⟨KL, hKL⟩ : ∃ KL, KL = [kval (.int .i64 (i : Int)), kval (.pointer (some ⟨g1, 0 * 33, none⟩)), kval (.pointer (some ⟨g1, 0 * 33 + 1, none⟩)), kval (.pointer (some ⟨g1, 0 * 33 + 1 + i, none⟩)), kval (.int .u8 ((s0.d.getD i 0).toNat : Int)), kval (.int .i64 (i : Int)), kval (.pointer (some ⟨g1, 1 * 33, none⟩)), kval (.pointer (some ⟨g1, 1 * 33 + 1, none⟩)), kval (.pointer (some ⟨g1, 1 * 33 + 1 + i, none⟩)), kval (.int .u8 ((s1.d.getD i 0).toNat : Int)), kval (.int .i64 (i : Int)), kval (.pointer (some ⟨g1, 2 * 33, none⟩)), kval (.pointer (some ⟨g1, 2 * 33 + 1, none⟩)), kval (.pointer (some ⟨g1, 2 * 33 + 1 + i, none⟩)), kval (.int .u8 ((s2.d.getD i 0).toNat : Int)), kval (.agg (cells8 [(s0.d.getD i 0), (s1.d.getD i 0), (s2.d.getD i 0)])), kptr w1.heap.size 47 (cells8 (List.replicate 3 0))] := ⟨_, rfl⟩
        have K0 := getK hKL 0
        have K1 := getK hKL 1
        have K2 := getK hKL 2
        have K3 := getK hKL 3
        have K4 := getK hKL 4
        have K5 := getK hKL 5
        have K6 := getK hKL 6
        have K7 := getK hKL 7
        have K8 := getK hKL 8
        have K9 := getK hKL 9
        have K10 := getK hKL 10
        have K11 := getK hKL 11
        have K12 := getK hKL 12
        have K13 := getK hKL 13
        have K14 := getK hKL 14
        have K15 := getK hKL 15
        have K16 := getK hKL 16
        have HKL : KL.length ≤ 17 := by rw [hKL]; exact Nat.le_refl _
        clear hKL
        refine wp_region_kdTail2 75 17 (by kernel_rfl) (by kernel_rfl) (by kernel_rfl) (by kernel_rfl) F3.size KL HKL ?_ ?_
        · refine ⟨?_, ?_, ?_, ?_, ?_, ?_, ?_, ?_, ?_, ?_, ?_, ?_, ?_, ?_, ?_, ?_, ?_, trivial⟩
          · exact asksHY rfl fun a W hS hh hd => giv_run (run_mv rfl (eval_tmp (hh 7 _ rfl (F3.at 7 rfl)))) K0
          · exact asksHY rfl fun a W hS hh hd => giv_run (run_idx33 (i := 0) (cnt := 3) rfl (eval_tmp (hh 4 _ rfl (F3.at 4 rfl))) rfl rfl (by omega) Tryd.underlying94 (by kernel_rfl)) K1
          · exact asksHY rfl fun a W hS hh hd => giv_run (run_fldO (m := 32) (s := 1) rfl (eval_tmp (hd.vl 1 46 (by kernel_rfl) K1)) Tryd.underlying54 rfl rfl (by kernel_rfl) (by decide)) K2
          · exact asksHY rfl fun a W hS hh hd => giv_run (run_idxO (i := i) (cnt := 32) rfl (eval_tmp (hd.vl 2 47 (by kernel_rfl) K2)) (eval_tmp (hd.vl 0 45 (by kernel_rfl) K0)) rfl (by omega) Tryd.underlying23 (by kernel_rfl)) K3
          · exact asksHY rfl fun a W hS hh hd => giv_run (run_ldF rfl (eval_tmp (hd.vl 3 48 (by kernel_rfl) K3)) ((M0.grow hS).at 2 rfl) (b3_d (j := 0) rfl h1) (by kernel_rfl)) K4
          · exact asksHY rfl fun a W hS hh hd => giv_run (run_mv rfl (eval_tmp (hh 7 _ rfl (F3.at 7 rfl)))) K5
          · exact asksHY rfl fun a W hS hh hd => giv_run (run_idx33 (i := 1) (cnt := 3) rfl (eval_tmp (hh 4 _ rfl (F3.at 4 rfl))) rfl rfl (by omega) Tryd.underlying94 (by kernel_rfl)) K6
          · exact asksHY rfl fun a W hS hh hd => giv_run (run_fldO (m := 32) (s := 1) rfl (eval_tmp (hd.vl 6 51 (by kernel_rfl) K6)) Tryd.underlying54 rfl rfl (by kernel_rfl) (by decide)) K7
          · exact asksHY rfl fun a W hS hh hd => giv_run (run_idxO (i := i) (cnt := 32) rfl (eval_tmp (hd.vl 7 52 (by kernel_rfl) K7)) (eval_tmp (hd.vl 5 50 (by kernel_rfl) K5)) rfl (by omega) Tryd.underlying23 (by kernel_rfl)) K8
          · exact asksHY rfl fun a W hS hh hd => giv_run (run_ldF rfl (eval_tmp (hd.vl 8 53 (by kernel_rfl) K8)) ((M0.grow hS).at 2 rfl) (b3_d (j := 1) rfl h1) (by kernel_rfl)) K9
          · exact asksHY rfl fun a W hS hh hd => giv_run (run_mv rfl (eval_tmp (hh 7 _ rfl (F3.at 7 rfl)))) K10
          · exact asksHY rfl fun a W hS hh hd => giv_run (run_idx33 (i := 2) (cnt := 3) rfl (eval_tmp (hh 4 _ rfl (F3.at 4 rfl))) rfl rfl (by omega) Tryd.underlying94 (by kernel_rfl)) K11
          · exact asksHY rfl fun a W hS hh hd => giv_run (run_fldO (m := 32) (s := 1) rfl (eval_tmp (hd.vl 11 56 (by kernel_rfl) K11)) Tryd.underlying54 rfl rfl (by kernel_rfl) (by decide)) K12
          · exact asksHY rfl fun a W hS hh hd => giv_run (run_idxO (i := i) (cnt := 32) rfl (eval_tmp (hd.vl 12 57 (by kernel_rfl) K12)) (eval_tmp (hd.vl 10 55 (by kernel_rfl) K10)) rfl (by omega) Tryd.underlying23 (by kernel_rfl)) K13
          · exact asksHY rfl fun a W hS hh hd => giv_run (run_ldF rfl (eval_tmp (hd.vl 13 58 (by kernel_rfl) K13)) ((M0.grow hS).at 2 rfl) (b3_d (j := 2) rfl h1) (by kernel_rfl)) K14
          · exact asksHY rfl fun a W hS hh hd => giv_run (run_blt (vs := #[(0, .int .u8 ((s0.d.getD i 0).toNat : Int)), (1, .int .u8 ((s1.d.getD i 0).toNat : Int)), (2, .int .u8 ((s2.d.getD i 0).toNat : Int))]) (cs := cells8 [(s0.d.getD i 0), (s1.d.getD i 0), (s2.d.getD i 0)]) rfl (bltE3 (eval_tmp (hd.vl 4 49 (by kernel_rfl) K4)) (eval_tmp (hd.vl 9 54 (by kernel_rfl) K9)) (eval_tmp (hd.vl 14 59 (by kernel_rfl) K14))) rfl) K15
          · exact asksHY rfl fun a W hS hh hd => giv_alloc hS.size 47 (cells8 (List.replicate 3 0)) (run_alloc rfl (by kernel_rfl)) K16
        · intro a4 w2 hb2 hK
          have e0 := hK.hvl 0 45 rfl (by kernel_rfl) K0
          have e1 := hK.hvl 1 46 rfl (by kernel_rfl) K1
          have e2 := hK.hvl 2 47 rfl (by kernel_rfl) K2
          have e3 := hK.hvl 3 48 rfl (by kernel_rfl) K3
          have e4 := hK.hvl 4 49 rfl (by kernel_rfl) K4
          have e5 := hK.hvl 5 50 rfl (by kernel_rfl) K5
          have e6 := hK.hvl 6 51 rfl (by kernel_rfl) K6
          have e7 := hK.hvl 7 52 rfl (by kernel_rfl) K7
          have e8 := hK.hvl 8 53 rfl (by kernel_rfl) K8
          have e9 := hK.hvl 9 54 rfl (by kernel_rfl) K9
          have e10 := hK.hvl 10 55 rfl (by kernel_rfl) K10
          have e11 := hK.hvl 11 56 rfl (by kernel_rfl) K11
          have e12 := hK.hvl 12 57 rfl (by kernel_rfl) K12
          have e13 := hK.hvl 13 58 rfl (by kernel_rfl) K13
          have e14 := hK.hvl 14 59 rfl (by kernel_rfl) K14
          have e15 := hK.hvl 15 60 rfl (by kernel_rfl) K15
          obtain ⟨v6, e16, hpv6⟩ := hK.hget (i := 16) (s := 8) rfl (by kernel_rfl)
          rw [K16] at hpv6
          obtain ⟨g7, hgg7, rfl, hBg7⟩ := hpv6
          have F4 : Fr a4 75 [(2, (.pointer (some ⟨g0, 0, none⟩))), (3, (.int .i64 0)), (4, (.pointer (some ⟨g1, 0, none⟩))), (5, (.pointer (some ⟨g2, 0, none⟩))), (6, (.pointer (some ⟨g3, 0, none⟩))), (7, (.int .i64 (i : Int))), (8, (.pointer (some ⟨g7, 0, none⟩))), (42, (.int .i64 (i : Int))), (43, (.bool true)), (44, (.int .i64 (i : Int))), (60, (.agg (cells8 [(s0.d.getD i 0), (s1.d.getD i 0), (s2.d.getD i 0)])))] := (hK.hfr F3 [_, _, _, _, _, _, _, _, _, _, _, _, _, _, _, _, _] ⟨e0, e1, e2, e3, e4, e5, e6, e7, e8, e9, e10, e11, e12, e13, e14, e15, e16, trivial⟩).sub ⟨rfl, rfl, rfl, rfl, rfl, rfl, rfl, rfl, rfl, rfl, rfl, trivial⟩
          have M1 := M0.add hb2 hgg7 hBg7
          clear hK K0 e0 K1 e1 K2 e2 K3 e3 K4 e4 K5 e5 K6 e6 K7 e7 K8 e8 K9 e9 K10 e10 K11 e11 K12 e12 K13 e13 K14 e14 K15 e15 K16 e16 HKL
          simp only [List.drop_succ_cons, List.drop_zero]
          refine sqStore (i := 0) F4 M1 rfl rfl rfl (F4.ev 8 rfl) (F4.ev 60 rfl) rfl sz47 (szOf rfl) (szOf List.length_replicate) (cells8_one _) fun a5 w3 F5 M2 => ?_
          refine sn ?_
          clear F3 F4 M0 M1
          refine wp_seq ?_
          obtain ⟨KL, hKL⟩ : ∃ KL, KL = [kval (.slice (some ⟨g2, 0, none⟩) 3 3), kval (.slice (some ⟨g7, 0, none⟩) 3 3), kval (.tuple #[(.int .u8 0), (.bool false)]), kval (.tuple #[(.int .u8 0), (.bool false)]), kval (.int .u8 0), kval (.bool false), kval (.int .u8 0), kval (.bool false)] := ⟨_, rfl⟩
          have K0 := getK hKL 0
          have K1 := getK hKL 1
          have K2 := getK hKL 2
          have K3 := getK hKL 3
          have K4 := getK hKL 4
          have K5 := getK hKL 5
          have K6 := getK hKL 6
          have K7 := getK hKL 7
          clear hKL
          refine wp_region_kd 75 (by kernel_rfl) (by kernel_rfl) (by kernel_rfl) F5.size KL ?_ ?_
          · refine ⟨?_, ?_, ?_, ?_, ?_, ?_, ?_, ?_, trivial⟩
            · exact asksY rfl fun a W hS hh hd => giv_run (run_slA rfl (eval_tmp (hh 5 _ rfl (F5.at 5 rfl))) (run_sliceArr_all (P := Tryd.prog) Tryd.underlying47 so8 g2 0 (by decide) _)) K0
            · exact asksY rfl fun a W hS hh hd => giv_run (run_slA rfl (eval_tmp (hh 8 _ rfl (F5.at 8 rfl))) (run_sliceArr_all (P := Tryd.prog) Tryd.underlying47 so8 g7 0 (by decide) _)) K1
            · exact asksY rfl fun a W hS hh hd => giv_call (run_call rfl Tryd.func56 (by kernel_rfl) rfl (mapE3 (eval_tmp (hd.vl 0 62 (by kernel_rfl) K0)) (eval_tmp (hd.vl 1 63 (by kernel_rfl) K1)) rfl)) ((by have h := fat_any [s0.x, s1.x, s2.x] [s0.d.getD i 0, s1.d.getD i 0, s2.d.getD i 0] (.slice (some ⟨g2, 0, none⟩) 3 3) (.slice (some ⟨g7, 0, none⟩) 3 3) 0 W (slOfB rfl ((M2.grow hS).at 2 rfl)) (slOfB rfl ((M2.grow hS).at 0 rfl)) rfl (by simp); rw [if_neg hn] at h; exact h)) K2
            · exact asksY rfl fun a W hS hh hd => giv_run (run_mv rfl (eval_tmp (hd.vl 2 64 (by kernel_rfl) K2))) K3
            · exact asksY rfl fun a W hS hh hd => giv_run (run_ext rfl (eval_tmp (hd.vl 3 61 (by kernel_rfl) K3)) rfl) K4
            · exact asksY rfl fun a W hS hh hd => giv_run (run_ext rfl (eval_tmp (hd.vl 3 61 (by kernel_rfl) K3)) rfl) K5
            · exact asksY rfl fun a W hS hh hd => giv_run (run_as rfl (eval_tmp (hd.vl 4 65 (by kernel_rfl) K4))) K6
            · exact asksY rfl fun a W hS hh hd => giv_run (run_as rfl (eval_tmp (hd.vl 5 66 (by kernel_rfl) K5))) K7
          · intro a6 w4 hb4 hK
            have e0 := hK.vl 0 62 (by kernel_rfl) K0
            have e1 := hK.vl 1 63 (by kernel_rfl) K1
            have e2 := hK.vl 2 64 (by kernel_rfl) K2
            have e3 := hK.vl 3 61 (by kernel_rfl) K3
            have e4 := hK.vl 4 65 (by kernel_rfl) K4
            have e5 := hK.vl 5 66 (by kernel_rfl) K5
            have e6 := hK.vl 6 9 (by kernel_rfl) K6
            have e7 := hK.vl 7 10 (by kernel_rfl) K7
            have F6 : Fr a6 75 [(2, (.pointer (some ⟨g0, 0, none⟩))), (3, (.int .i64 0)), (4, (.pointer (some ⟨g1, 0, none⟩))), (5, (.pointer (some ⟨g2, 0, none⟩))), (6, (.pointer (some ⟨g3, 0, none⟩))), (7, (.int .i64 (i : Int))), (8, (.pointer (some ⟨g7, 0, none⟩))), (9, (.int .u8 0)), (10, (.bool false)), (42, (.int .i64 (i : Int))), (43, (.bool true)), (44, (.int .i64 (i : Int))), (60, (.agg (cells8 [(s0.d.getD i 0), (s1.d.getD i 0), (s2.d.getD i 0)])))] := (hK.fr F5 [_, _, _, _, _, _, _, _] ⟨e0, e1, e2, e3, e4, e5, e6, e7, trivial⟩).sub ⟨rfl, rfl, rfl, rfl, rfl, rfl, rfl, rfl, rfl, rfl, rfl, rfl, rfl, trivial⟩
            have M3 := M2.grow hb4
            clear hK K0 e0 K1 e1 K2 e2 K3 e3 K4 e4 K5 e5 K6 e6 K7 e7
            clear F5 M2
            refine nx ?_
            refine wp_seq ?_
            refine wsl ?_
            refine mvS F6 rfl rfl rfl rfl rfl fun a7 F7 => ?_
            refine sr (v := (.bool true)) F7 (run_not rfl (F7.ev 67 rfl)) rfl rfl rfl fun a8 F8 => ?_
            refine sn ?_
            clear F6 F7
            refine wp_cond_true (F8.ev 68 rfl) ?_
            refine wsl ?_
            refine sr (v := (.agg (cells8 (List.replicate 32 0)))) F8 (run_blt (vs := #[]) (cs := cells8 (List.replicate 32 0)) rfl (by simp) (by kernel_rfl)) rfl rfl rfl fun a9 F9 => ?_
            refine sqStore (i := 4) F9 M3 rfl rfl rfl (F9.ev 2 rfl) (F9.ev 69 rfl) rfl sz32k (szOf List.length_replicate) (szOf List.length_replicate) (cells8_one _) fun a10 w5 F10 M4 => ?_
            refine sr (v := (.int .i64 1)) F10 (run_as rfl rfl) rfl rfl rfl fun a11 F11 => ?_
            refine sn ?_
            clear F8 F9 F10 M3
            refine wp_ret ?_
            refine nxRet ?_
            refine bkRet ?_
            refine nxRet ?_
            refine nxRet ?_
            refine bkRet ?_
            refine nxRet ?_
            exact retBT F11 rfl rfl (M4.at 4 rfl) Tryd.underlying23 rfl sz32k (szOf List.length_replicate) rfl ⟨rfl, M4.below⟩
    · have hie : i = 32 := by omega
      subst hie
      have hn := hN (by omega)
      have hJ : joinT [s0, s1, s2] = some (keyT s0 s1 s2 32) := by rw [joinT, if_neg hz, if_pos hn]
      rw [hJ]
      refine wsl ?_
      refine sr (v := (.bool false)) F0 (run_lss rfl (F0.ev 42 rfl) rfl (decide_eq_false (by omega))) rfl rfl rfl fun a1 F1 => ?_
      refine sn ?_
      clear F0
      refine wp_seq ?_
      refine wp_cond_false (F1.ev 43 rfl) ?_
      refine wp_exit ?_
      refine nxExit ?_
      refine nxExit ?_
      refine bkHere ?_
      refine nx ?_
      refine wsl ?_
      refine sr F1 (run_ldB rfl (F1.ev 6 rfl) (M0.at 0 rfl) Tryd.underlying23 rfl sz32k (szOf (keyT_len _ _ _ _))) rfl rfl rfl fun a2 F2 => ?_
      refine sqStore (i := 3) F2 M0 rfl rfl rfl (F2.ev 2 rfl) (F2.ev 74 rfl) rfl sz32k (szOf (keyT_len _ _ _ _)) (szOf List.length_replicate) (cells8_one _) fun a3 w2 F3 M1 => ?_
      refine sr (v := (.int .i64 0)) F3 (run_as rfl rfl) rfl rfl rfl fun a4 F4 => ?_
      refine sn ?_
      clear F1 F2 F3 M0
      refine wp_ret ?_
      exact retBT F4 rfl rfl (M1.at 3 rfl) Tryd.underlying23 rfl sz32k (szOf (keyT_len _ _ _ _)) rfl ⟨rfl, M1.below⟩
end Go.Proofs.YtconhhhggckcbaaDoor
