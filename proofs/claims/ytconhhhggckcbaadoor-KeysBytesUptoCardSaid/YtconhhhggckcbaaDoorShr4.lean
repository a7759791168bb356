/- share.Split's error; the walks of the reference's Right, At and Join (layer 6). Printed by gen_key6.py. -/
import Derived.Test.YtconhhhggckcbaaDoorFldP
import Derived.Test.YtconhhhggckcbaaDoorFldQ
import Derived.Test.YtconhhhggckcbaaDoorShr3
import Derived.Test.YtconhhhggckcbaaDoorShQ
import Derived.Test.YtconhhhggckcbaaDoorShr1
namespace Go.Proofs.YtconhhhggckcbaaDoor
open Go.RowKit

set_option maxRecDepth 100000 in
set_option maxHeartbeats 1000000 in
theorem splitE_any (k no : List UInt8) (w : World) (_hLk : k.length = 32) (hno : no.length ≠ 64) : Calls Tryd.prog 38 #[.agg (cells8 k), .int .i64 5, .string ⟨no.toArray⟩] w fun e w' => e = .returned (.tuple #[.slice none 0 0, .int .i64 1]) ∧ Below w.heap.size w w' := by
  refine walk_enter Tryd.func38 rfl rfl rfl fun a0 F0 => ?_
  have M0 := Mem.new w
  refine wsl ?_
  refine sqNew (cs := (cells8 k)) (t := 23) F0 M0 (wantedS rfl) (run_box rfl (F0.ev 0 rfl)) rfl (by decide) fun g0 a1 w1 hgg0 hb1 F1 M1 => ?_
  refine sr (v := (.slice none 0 0)) F1 (run_as rfl rfl) rfl rfl rfl fun a2 F2 => ?_
  refine sr (v := (.int .i64 0)) F2 (run_as rfl rfl) rfl rfl rfl fun a3 F3 => ?_
  refine sn ?_
  clear F0 F1 F2 M0
  refine wp_seq ?_
  refine wsl ?_
  refine mvS F3 rfl rfl rfl rfl rfl fun a4 F4 => ?_
  refine sr (v := (.bool false)) F4 (run_lss rfl (F4.ev 14 rfl) rfl (decide_eq_false (by omega))) rfl rfl rfl fun a5 F5 => ?_
  refine mvS F5 rfl rfl rfl rfl rfl fun a6 F6 => ?_
  refine sq (v := (.int .i64 5)) F6 (wantedG F6 rfl rfl rfl rfl rfl) (run_mv rfl (F6.ev 1 rfl)) rfl (by decide) fun a7 F7 => ?_
  refine sq (v := (.bool false)) F7 (wantedG F7 rfl rfl rfl rfl rfl) (run_gtr rfl (F7.ev 17 rfl) rfl (decide_eq_false (by omega))) rfl (by decide) fun a8 F8 => ?_
  refine sr (v := (.bool false)) F8 (run_pick rfl (F8.ev 16 rfl) rfl (F8.ev 18 rfl)) rfl rfl rfl fun a9 F9 => ?_
  refine mvS F9 rfl rfl rfl rfl rfl fun a10 F10 => ?_
  refine sq (v := (.string ⟨no.toArray⟩)) F10 (wantedG F10 rfl rfl rfl rfl rfl) (run_mv rfl (F10.ev 2 rfl)) rfl (by decide) fun a11 F11 => ?_
  refine sq (v := (.int .i64 (no.length : Int))) F11 (wantedG F11 rfl rfl rfl rfl rfl) (run_len rfl (F11.ev 21 rfl) rfl Tryd.underlying9) rfl (by decide) fun a12 F12 => ?_
  refine sq (v := (.bool true)) F12 (wantedG F12 rfl rfl rfl rfl rfl) (run_nei rfl (F12.ev 22 rfl) rfl (bne_iff_ne.2 (by omega))) rfl (by decide) fun a13 F13 => ?_
  refine sr (v := (.bool true)) F13 (run_pick rfl (F13.ev 20 rfl) rfl (F13.ev 23 rfl)) rfl rfl rfl fun a14 F14 => ?_
  refine sn ?_
  clear F3 F4 F5 F6 F7 F8 F9 F10 F11 F12 F13
  refine wp_cond_true (F14.ev 24 rfl) ?_
  refine wsl ?_
  refine sr (v := (.slice none 0 0)) F14 (run_as rfl rfl) rfl rfl rfl fun a15 F15 => ?_
  refine sr (v := (.int .i64 1)) F15 (run_as rfl rfl) rfl rfl rfl fun a16 F16 => ?_
  refine sn ?_
  clear F14 F15
  refine wp_ret ?_
  refine nxRet ?_
  exact ret2 F16 rfl rfl rfl ⟨rfl, M1.below⟩
end Go.Proofs.YtconhhhggckcbaaDoor
