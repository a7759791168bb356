/- The walks of pack.Name and of the reference's Name. Printed by gen_pack8.py. -/
import Derived.Test.YtdjjiblijbjobaaDoorPack7m
import Derived.Test.YtdjjiblijbjobaaDoorEqBox
import Derived.Test.YtdjjiblijbjobaaDoorSum
import Derived.Test.YtdjjiblijbjobaaDoorHexB
import Derived.Test.YtdjjiblijbjobaaDoorSealB
namespace Go.Proofs.YtdjjiblijbjobaaDoor
open Go.RowKit

attribute [local simp] hexS_len sumS_len
/-- a pack's name. -/
def nameS (b : List UInt8) : List UInt8 := [112, 97, 99, 107, 47] ++ hexS (sumS b)
theorem sum1 (x : List UInt8) (v : Value) (w : World) (HG : Glob w) (hs : Strs w v [x]) (hx : x.length < 2 ^ 45) : Calls Tryd.prog 62 #[v] w fun e w' => e = .returned (.agg (cells8 (sumS x))) ∧ Below w.heap.size w w' := by
  have h := sum_any [x] v w HG hs (by simp; omega) (by simp)
  rwa [show [x].flatten = x by simp] at h
set_option maxRecDepth 100000 in
set_option maxHeartbeats 1000000 in
theorem pname_any (b : List UInt8) (w : World) (HG : Glob w) (hb : b.length < 2 ^ 44) : Calls Tryd.prog 31 #[.string ⟨b.toArray⟩] w fun e w' => e = .returned (.string ⟨(nameS b).toArray⟩) ∧ Below w.heap.size w w' := by
  refine walk_enter Tryd.func31 rfl rfl rfl fun a0 F0 => ?_
  have M0 := Mem.new w
  refine wsl ?_
  refine sr (v := (.string ⟨List.toArray []⟩)) F0 (run_as rfl rfl) rfl rfl rfl fun a1 F1 => ?_
  refine sn ?_
  clear F0
  refine wsl ?_
  refine mvS F1 rfl rfl rfl rfl rfl fun a2 F2 => ?_
  refine sqStrs [b] F2 M0 (wantedS rfl) (run_strs1 rfl (F2.ev 3 rfl)) rfl (by decide) fun v0 a3 w1 hsv0 hb1 F3 M1 => ?_
  refine sqC (v := (.agg (cells8 (sumS b)))) F3 M1 (wantedS rfl) (run_call rfl Tryd.func62 (by kernel_rfl) rfl (mapE1 (F3.ev 4 rfl))) rfl (by decide) (sum1 b _ w1 (HG.below M1.below) hsv0 (by omega)) fun a4 w2 hb2 F4 M2 => ?_
  have hS1 := hsv0.below hb2
  refine sqC (v := (.string ⟨(hexS (sumS b)).toArray⟩)) F4 M2 (wantedS rfl) (run_call rfl Tryd.func34 (by kernel_rfl) rfl (mapE1 (F4.ev 5 rfl))) rfl (by decide) (hex_any (sumS b) w2 (sumS_len b)) fun a5 w3 hb3 F5 M3 => ?_
  have hS2 := hS1.below hb3
  refine sr (v := (.string ⟨([112, 97, 99, 107, 47] ++ (hexS (sumS b))).toArray⟩)) F5 (run_cat rfl rfl (F5.ev 6 rfl) (by first | omega | decide | (simp; done) | (simp; omega))) rfl rfl rfl fun a6 F6 => ?_
  refine asS F6 rfl rfl rfl rfl rfl fun a7 F7 => ?_
  refine sn ?_
  clear F1 F2 F3 F4 F5 F6 M0 M1 M2
  refine wp_ret ?_
  exact ret1 F7 rfl rfl ⟨rfl, M3.below⟩
end Go.Proofs.YtdjjiblijbjobaaDoor
