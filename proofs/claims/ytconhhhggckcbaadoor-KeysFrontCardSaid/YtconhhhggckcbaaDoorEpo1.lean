/- The walks of keys.checkOf and keys.wrapKey. Printed by gen_key9.py. -/
import Derived.Test.YtconhhhggckcbaaDoorKyBB
import Derived.Test.YtconhhhggckcbaaDoorOpsB
namespace Go.Proofs.YtconhhhggckcbaaDoor
open Go.RowKit

set_option maxRecDepth 100000 in
set_option maxHeartbeats 1000000 in
theorem kcheck_any (k : List UInt8) (w : World) (HG : Glob w) (hLk : k.length = 32) : Calls Tryd.prog 39 #[.agg (cells8 k)] w fun e w' => e = .returned (.agg (cells8 (keyedS k [99, 104, 101, 99, 107]))) ∧ Below w.heap.size w w' := by
  refine walk_enter Tryd.func39 rfl rfl rfl fun a0 F0 => ?_
  have M0 := Mem.new w
  refine wsl ?_
  refine sqNew (cs := (cells8 k)) (t := 23) F0 M0 (wantedS rfl) (run_box rfl (F0.ev 0 rfl)) rfl (by decide) fun g0 a1 w1 hgg0 hb1 F1 M1 => ?_
  refine sqNew (cs := (cells8 (List.replicate 32 0))) (t := 73) F1 M1 (wantedS rfl) (run_alloc rfl (by kernel_rfl)) rfl (by decide) fun g1 a2 w2 hgg1 hb2 F2 M2 => ?_
  refine sn ?_
  clear F0 F1 M0 M1
  refine wsl ?_
  refine sr F2 (run_ldB rfl (F2.ev 1 rfl) (M2.at 1 rfl) Tryd.underlying23 rfl sz32k (szOf hLk)) rfl rfl rfl fun a3 F3 => ?_
  refine sqStrs [[99, 104, 101, 99, 107]] F3 M2 (wantedS rfl) (run_strs1 rfl rfl) rfl (by decide) fun v2 a4 w3 hsv2 hb3 F4 M3 => ?_
  refine sqC (v := (.agg (cells8 (keyedS k [99, 104, 101, 99, 107])))) F4 M3 (wantedS rfl) (run_call rfl Tryd.func57 (by kernel_rfl) rfl (mapE2 (F4.ev 3 rfl) (F4.ev 4 rfl))) rfl (by decide) (keyed1 k [99, 104, 101, 99, 107] _ w3 hLk (HG.below M3.below) hsv2 (by first | omega | decide | (simp; done) | (simp; omega))) fun a5 w4 hb4 F5 M4 => ?_
  have hS1 := hsv2.below hb4
  refine sqStore (i := 0) F5 M4 rfl rfl rfl (F5.ev 2 rfl) (F5.ev 5 rfl) rfl sz32d (szOf (keyedS_len _ _)) (szOf List.length_replicate) (cells8_one _) fun a6 w5 F6 M5 => ?_
  refine sn ?_
  clear F2 F3 F4 F5 M2 M3 M4
  refine wp_ret ?_
  exact retB F6 rfl rfl (M5.at 0 rfl) Tryd.underlying73 rfl sz32d (szOf (keyedS_len _ _)) ⟨rfl, M5.below⟩
set_option maxRecDepth 100000 in
set_option maxHeartbeats 1000000 in
theorem kwrap_any (k : List UInt8) (w : World) (HG : Glob w) (hLk : k.length = 32) : Calls Tryd.prog 49 #[.agg (cells8 k)] w fun e w' => e = .returned (.agg (cells8 (keyedS k [119, 114, 97, 112]))) ∧ Below w.heap.size w w' := by
  refine walk_enter Tryd.func49 rfl rfl rfl fun a0 F0 => ?_
  have M0 := Mem.new w
  refine wsl ?_
  refine sqNew (cs := (cells8 k)) (t := 23) F0 M0 (wantedS rfl) (run_box rfl (F0.ev 0 rfl)) rfl (by decide) fun g0 a1 w1 hgg0 hb1 F1 M1 => ?_
  refine sqNew (cs := (cells8 (List.replicate 32 0))) (t := 23) F1 M1 (wantedS rfl) (run_alloc rfl (by kernel_rfl)) rfl (by decide) fun g1 a2 w2 hgg1 hb2 F2 M2 => ?_
  refine sn ?_
  clear F0 F1 M0 M1
  refine wsl ?_
  refine sr F2 (run_ldB rfl (F2.ev 1 rfl) (M2.at 1 rfl) Tryd.underlying23 rfl sz32k (szOf hLk)) rfl rfl rfl fun a3 F3 => ?_
  refine sqStrs [[119, 114, 97, 112]] F3 M2 (wantedS rfl) (run_strs1 rfl rfl) rfl (by decide) fun v2 a4 w3 hsv2 hb3 F4 M3 => ?_
  refine sqC (v := (.agg (cells8 (keyedS k [119, 114, 97, 112])))) F4 M3 (wantedS rfl) (run_call rfl Tryd.func57 (by kernel_rfl) rfl (mapE2 (F4.ev 3 rfl) (F4.ev 4 rfl))) rfl (by decide) (keyed1 k [119, 114, 97, 112] _ w3 hLk (HG.below M3.below) hsv2 (by first | omega | decide | (simp; done) | (simp; omega))) fun a5 w4 hb4 F5 M4 => ?_
  have hS1 := hsv2.below hb4
  refine sqStore (i := 0) F5 M4 rfl rfl rfl (F5.ev 2 rfl) (F5.ev 5 rfl) rfl sz32k (szOf (keyedS_len _ _)) (szOf List.length_replicate) (cells8_one _) fun a6 w5 F6 M5 => ?_
  refine sn ?_
  clear F2 F3 F4 F5 M2 M3 M4
  refine wp_ret ?_
  exact retB F6 rfl rfl (M5.at 0 rfl) Tryd.underlying23 rfl sz32k (szOf (keyedS_len _ _)) ⟨rfl, M5.below⟩
end Go.Proofs.YtconhhhggckcbaaDoor
