/- The walk of the reference's Join (layer 6). Printed by gen_key8.py. -/
import Derived.Test.YtconhhhggckcbaaDoorShr5
namespace Go.Proofs.YtconhhhggckcbaaDoor
open Go.RowKit

set_option maxRecDepth 100000 in
set_option maxHeartbeats 1000000 in
theorem rjoinN_any (l : List Sh) (v : Value) (w : World) (hV : Sl w v 33 l.length (l.flatMap shareC)) (hl : l.length ≠ 3) : Calls Tryd.prog 50 #[v] w fun e w' => e = joinR none ∧ Below w.heap.size w w' := by
  refine walk_enter Tryd.func50 rfl rfl rfl fun a0 F0 => ?_
  have M0 := Mem.new w
  refine wsl ?_
  refine sqNew (cs := (cells8 (List.replicate 32 0))) (t := 23) F0 M0 (wantedS rfl) (run_alloc rfl (by kernel_rfl)) rfl (by decide) fun g0 a1 w1 hgg0 hb1 F1 M1 => ?_
  refine sr (v := (.int .i64 0)) F1 (run_as rfl rfl) rfl rfl rfl fun a2 F2 => ?_
  refine sn ?_
  clear F0 F1 M0
  refine wp_seq ?_
  refine wsl ?_
  refine mvS F2 rfl rfl rfl rfl rfl fun a3 F3 => ?_
  refine sqC (v := (.bool false)) F3 M1 (wantedS rfl) (run_call rfl Tryd.func76 (by kernel_rfl) rfl (mapE1 (F3.ev 4 rfl))) rfl (by decide) (rrightN_any l v w1 (hV.below M1.below) hl) fun a4 w2 hb2 F4 M2 => ?_
  refine sr (v := (.bool true)) F4 (run_not rfl (F4.ev 5 rfl)) rfl rfl rfl fun a5 F5 => ?_
  refine sn ?_
  clear F2 F3 F4 M1
  refine wp_cond_true (F5.ev 6 rfl) ?_
  refine wsl ?_
  refine sr (v := (.agg (cells8 (List.replicate 32 0)))) F5 (run_blt (vs := #[]) (cs := cells8 (List.replicate 32 0)) rfl (by simp) (by kernel_rfl)) rfl rfl rfl fun a6 F6 => ?_
  refine sqStore (i := 0) F6 M2 rfl rfl rfl (F6.ev 2 rfl) (F6.ev 7 rfl) rfl sz32k (szOf List.length_replicate) (szOf List.length_replicate) (cells8_one _) fun a7 w3 F7 M3 => ?_
  refine sr (v := (.int .i64 1)) F7 (run_as rfl rfl) rfl rfl rfl fun a8 F8 => ?_
  refine sn ?_
  clear F5 F6 F7 M2
  refine wp_ret ?_
  refine nxRet ?_
  exact retBT F8 rfl rfl (M3.at 0 rfl) Tryd.underlying23 rfl sz32k (szOf List.length_replicate) rfl ⟨rfl, M3.below⟩
set_option maxRecDepth 100000 in
set_option maxHeartbeats 1000000 in
theorem rjoin3_any (s0 s1 s2 : Sh) (v : Value) (w : World) (hV : Sl w v 33 3 ([s0, s1, s2].flatMap shareC)) : Calls Tryd.prog 50 #[v] w fun e w' => e = joinR (joinT [s0, s1, s2]) ∧ Below w.heap.size w w' := by
  by_cases hc : ¬(s0.x = 0 ∨ s1.x = 0 ∨ s2.x = 0) ∧ [s0.x, s1.x, s2.x].Nodup
  · have hJ : joinT [s0, s1, s2] = some (keyT s0 s1 s2 32) := by rw [joinT, if_neg hc.1, if_pos hc.2]
    have hn := hc.2
    simp only [List.nodup_cons, List.mem_cons, List.not_mem_nil, or_false, not_or] at hn
    obtain ⟨⟨d01, d02⟩, d12, _⟩ := hn
    rw [hJ]
    refine walk_enter Tryd.func50 rfl rfl rfl fun a0 F0 => ?_
    have M0 := Mem.new w
    refine wsl ?_
    refine sqNew (cs := (cells8 (List.replicate 32 0))) (t := 23) F0 M0 (wantedS rfl) (run_alloc rfl (by kernel_rfl)) rfl (by decide) fun g0 a1 w1 hgg0 hb1 F1 M1 => ?_
    refine sr (v := (.int .i64 0)) F1 (run_as rfl rfl) rfl rfl rfl fun a2 F2 => ?_
    refine sn ?_
    clear F0 F1 M0
    refine wp_seq ?_
    refine wsl ?_
    refine mvS F2 rfl rfl rfl rfl rfl fun a3 F3 => ?_
    refine sqC (v := (.bool true)) F3 M1 (wantedS rfl) (run_call rfl Tryd.func76 (by kernel_rfl) rfl (mapE1 (F3.ev 4 rfl))) rfl (by decide) ((by have h := rright3_any s0 s1 s2 v w1 (hV.below M1.below); rw [hJ] at h; exact h)) fun a4 w2 hb2 F4 M2 => ?_
    refine sr (v := (.bool false)) F4 (run_not rfl (F4.ev 5 rfl)) rfl rfl rfl fun a5 F5 => ?_
    refine sn ?_
    clear F2 F3 F4 M1
    refine cfs (F5.ev 6 rfl) ?_
    refine wsl ?_
    refine mvS F5 rfl rfl rfl rfl rfl fun a6 F6 => ?_
    refine sqC (v := (.agg (cells8 (keyT s0 s1 s2 32)))) F6 M2 (wantedS rfl) (run_call rfl Tryd.func77 (by kernel_rfl) rfl (mapE2 (F6.ev 8 rfl) rfl)) rfl (by decide) (rat6_any s0 s1 s2 v w2 (hV.below M2.below) d01 d02 d12) fun a7 w3 hb3 F7 M3 => ?_
    refine sqStore (i := 0) F7 M3 rfl rfl rfl (F7.ev 2 rfl) (F7.ev 9 rfl) rfl sz32k (szOf (keyT_len _ _ _ _)) (szOf List.length_replicate) (cells8_one _) fun a8 w4 F8 M4 => ?_
    refine sr (v := (.int .i64 0)) F8 (run_as rfl rfl) rfl rfl rfl fun a9 F9 => ?_
    refine sn ?_
    clear F5 F6 F7 F8 M2 M3
    refine wp_ret ?_
    exact retBT F9 rfl rfl (M4.at 0 rfl) Tryd.underlying23 rfl sz32k (szOf (keyT_len _ _ _ _)) rfl ⟨rfl, M4.below⟩
  · have hJ : joinT [s0, s1, s2] = none := by
      rw [joinT]
      by_cases h1 : s0.x = 0 ∨ s1.x = 0 ∨ s2.x = 0
      · rw [if_pos h1]
      · rw [if_neg h1, if_neg (fun h => hc ⟨h1, h⟩)]
    rw [hJ]
    refine walk_enter Tryd.func50 rfl rfl rfl fun a0 F0 => ?_
    have M0 := Mem.new w
    refine wsl ?_
    refine sqNew (cs := (cells8 (List.replicate 32 0))) (t := 23) F0 M0 (wantedS rfl) (run_alloc rfl (by kernel_rfl)) rfl (by decide) fun g0 a1 w1 hgg0 hb1 F1 M1 => ?_
    refine sr (v := (.int .i64 0)) F1 (run_as rfl rfl) rfl rfl rfl fun a2 F2 => ?_
    refine sn ?_
    clear F0 F1 M0
    refine wp_seq ?_
    refine wsl ?_
    refine mvS F2 rfl rfl rfl rfl rfl fun a3 F3 => ?_
    refine sqC (v := (.bool false)) F3 M1 (wantedS rfl) (run_call rfl Tryd.func76 (by kernel_rfl) rfl (mapE1 (F3.ev 4 rfl))) rfl (by decide) ((by have h := rright3_any s0 s1 s2 v w1 (hV.below M1.below); rw [hJ] at h; exact h)) fun a4 w2 hb2 F4 M2 => ?_
    refine sr (v := (.bool true)) F4 (run_not rfl (F4.ev 5 rfl)) rfl rfl rfl fun a5 F5 => ?_
    refine sn ?_
    clear F2 F3 F4 M1
    refine wp_cond_true (F5.ev 6 rfl) ?_
    refine wsl ?_
    refine sr (v := (.agg (cells8 (List.replicate 32 0)))) F5 (run_blt (vs := #[]) (cs := cells8 (List.replicate 32 0)) rfl (by simp) (by kernel_rfl)) rfl rfl rfl fun a6 F6 => ?_
    refine sqStore (i := 0) F6 M2 rfl rfl rfl (F6.ev 2 rfl) (F6.ev 7 rfl) rfl sz32k (szOf List.length_replicate) (szOf List.length_replicate) (cells8_one _) fun a7 w3 F7 M3 => ?_
    refine sr (v := (.int .i64 1)) F7 (run_as rfl rfl) rfl rfl rfl fun a8 F8 => ?_
    refine sn ?_
    clear F5 F6 F7 M2
    refine wp_ret ?_
    refine nxRet ?_
    exact retBT F8 rfl rfl (M3.at 0 rfl) Tryd.underlying23 rfl sz32k (szOf List.length_replicate) rfl ⟨rfl, M3.below⟩
theorem rjoin_any (l : List Sh) (v : Value) (w : World) (hV : Sl w v 33 l.length (l.flatMap shareC)) : Calls Tryd.prog 50 #[v] w fun e w' => e = joinR (joinT l) ∧ Below w.heap.size w w' := by
  by_cases hl : l.length = 3
  · match l, hl, hV with
    | [s0, s1, s2], _, hV => exact rjoin3_any s0 s1 s2 v w hV
  · rw [joinT_none hl]
    exact rjoinN_any l v w hV hl
end Go.Proofs.YtconhhhggckcbaaDoor
