/- The walks of pack.Name and of the reference's Name. Printed by gen_pack8.py. -/
import Derived.Test.YtnkklogkjnfjgaaDoorPackZ
import Derived.Test.YtnkklogkjnfjgaaDoorSum
import Derived.Test.YtnkklogkjnfjgaaDoorRsums
import Derived.Test.YtnkklogkjnfjgaaDoorHex
import Derived.Test.YtnkklogkjnfjgaaDoorRhex
import Derived.Test.YtnkklogkjnfjgaaDoorSealB
namespace Go.Proofs.YtnkklogkjnfjgaaDoor
open Go.RowKit

attribute [local simp] hexS_len sumS_len
/-- a pack's name. -/
def nameS (b : List UInt8) : List UInt8 := [112, 97, 99, 107, 47] ++ hexS (sumS b)
theorem sum1 (x : List UInt8) (v : Value) (w : World) (HG : Glob w) (hs : Strs w v [x]) (hx : x.length < 2 ^ 45) : Calls Tryd.prog 49 #[v] w fun e w' => e = .returned (.agg (cells8 (sumS x))) ∧ Below w.heap.size w w' := by
  have h := sum_any [x] v w HG hs (by simp; omega) (by simp)
  rwa [show [x].flatten = x by simp] at h
theorem rsum1 (x : List UInt8) (v : Value) (w : World) (hs : Strs w v [x]) (hx : x.length < 2 ^ 45) : Calls Tryd.prog 51 #[v] w fun e w' => e = .returned (.agg (cells8 (sumS x))) ∧ Below w.heap.size w w' := by
  have h := rsum_any [x] v w hs (by simp; omega) (by simp)
  rwa [show [x].flatten = x by simp] at h
set_option maxRecDepth 100000 in
set_option maxHeartbeats 1000000 in
theorem pname_any (b : List UInt8) (w : World) (HG : Glob w) (hb : b.length < 2 ^ 44) : Calls Tryd.prog 25 #[.string ⟨b.toArray⟩] w fun e w' => e = .returned (.string ⟨(nameS b).toArray⟩) ∧ Below w.heap.size w w' := by
  refine walk_enter Tryd.func25 rfl rfl rfl fun a0 hF0 => ?_
  have hM0 := Mem.new w
  refine wp_seq ?_
  refine wp_region_lit ?_
  refine sq (v := (.string ⟨List.toArray []⟩)) hF0 (wantedS rfl) (run_as rfl rfl) rfl (by decide) fun a1 hF1 => ?_
  refine sqEnd ?_
  clear hF0
  refine nx ?_
  refine wp_seq ?_
  refine wp_region_lit ?_
  refine sq (v := (.string ⟨b.toArray⟩)) hF1 (wantedS rfl) (run_mv rfl (hF1.ev 0 rfl)) rfl (by decide) fun a2 hF2 => ?_
  refine sqStrs [b] hF2 hM0 (wantedS rfl) (run_strs1 rfl (hF2.ev 3 rfl)) rfl (by decide) fun v0 a3 w1 hsv0 hb1 hF3 hM1 => ?_
  refine sqC (v := (.agg (cells8 (sumS b)))) hF3 hM1 (wantedS rfl) (run_call rfl Tryd.func49 (by kernel_rfl) rfl (mapE1 (hF3.ev 4 rfl))) rfl (by decide) (sum1 b _ w1 (HG.below hM1.below) hsv0 (by omega)) fun a4 w2 hb2 hF4 hM2 => ?_
  have hS1 := hsv0.below hb2
  refine sqC (v := (.string ⟨(hexS (sumS b)).toArray⟩)) hF4 hM2 (wantedS rfl) (run_call rfl Tryd.func48 (by kernel_rfl) rfl (mapE1 (hF4.ev 5 rfl))) rfl (by decide) (hex_any (sumS b) w2 (sumS_len b)) fun a5 w3 hb3 hF5 hM3 => ?_
  have hS2 := hS1.below hb3
  refine sq (v := (.string ⟨([112, 97, 99, 107, 47] ++ (hexS (sumS b))).toArray⟩)) hF5 (wantedS rfl) (run_cat rfl rfl (hF5.ev 6 rfl) (by first | omega | decide | (simp; done) | (simp; omega))) rfl (by decide) fun a6 hF6 => ?_
  refine sq (v := (.string ⟨([112, 97, 99, 107, 47] ++ (hexS (sumS b))).toArray⟩)) hF6 (wantedS rfl) (run_as rfl (hF6.ev 7 rfl)) rfl (by decide) fun a7 hF7 => ?_
  refine sqEnd ?_
  clear hF1 hF2 hF3 hF4 hF5 hF6 hM0 hM1 hM2
  refine nx ?_
  refine wp_ret ?_
  exact ret1 hF7 rfl rfl ⟨rfl, hM3.below⟩
set_option maxRecDepth 100000 in
set_option maxHeartbeats 1000000 in
theorem rname_any (b : List UInt8) (w : World) (hb : b.length < 2 ^ 44) : Calls Tryd.prog 26 #[.string ⟨b.toArray⟩] w fun e w' => e = .returned (.string ⟨(nameS b).toArray⟩) ∧ Below w.heap.size w w' := by
  refine walk_enter Tryd.func26 rfl rfl rfl fun a0 hF0 => ?_
  have hM0 := Mem.new w
  refine wp_seq ?_
  refine wp_region_lit ?_
  refine sq (v := (.string ⟨List.toArray []⟩)) hF0 (wantedS rfl) (run_as rfl rfl) rfl (by decide) fun a1 hF1 => ?_
  refine sqEnd ?_
  clear hF0
  refine nx ?_
  refine wp_seq ?_
  refine wp_region_lit ?_
  refine sq (v := (.string ⟨b.toArray⟩)) hF1 (wantedS rfl) (run_mv rfl (hF1.ev 0 rfl)) rfl (by decide) fun a2 hF2 => ?_
  refine sqStrs [b] hF2 hM0 (wantedS rfl) (run_strs1 rfl (hF2.ev 3 rfl)) rfl (by decide) fun v0 a3 w1 hsv0 hb1 hF3 hM1 => ?_
  refine sqC (v := (.agg (cells8 (sumS b)))) hF3 hM1 (wantedS rfl) (run_call rfl Tryd.func51 (by kernel_rfl) rfl (mapE1 (hF3.ev 4 rfl))) rfl (by decide) (rsum1 b _ w1 hsv0 (by omega)) fun a4 w2 hb2 hF4 hM2 => ?_
  have hS1 := hsv0.below hb2
  refine sqC (v := (.string ⟨(hexS (sumS b)).toArray⟩)) hF4 hM2 (wantedS rfl) (run_call rfl Tryd.func50 (by kernel_rfl) rfl (mapE1 (hF4.ev 5 rfl))) rfl (by decide) (rhex_any (sumS b) w2 (sumS_len b)) fun a5 w3 hb3 hF5 hM3 => ?_
  have hS2 := hS1.below hb3
  refine sq (v := (.string ⟨([112, 97, 99, 107, 47] ++ (hexS (sumS b))).toArray⟩)) hF5 (wantedS rfl) (run_cat rfl rfl (hF5.ev 6 rfl) (by first | omega | decide | (simp; done) | (simp; omega))) rfl (by decide) fun a6 hF6 => ?_
  refine sq (v := (.string ⟨([112, 97, 99, 107, 47] ++ (hexS (sumS b))).toArray⟩)) hF6 (wantedS rfl) (run_as rfl (hF6.ev 7 rfl)) rfl (by decide) fun a7 hF7 => ?_
  refine sqEnd ?_
  clear hF1 hF2 hF3 hF4 hF5 hF6 hM0 hM1 hM2
  refine nx ?_
  refine wp_ret ?_
  exact ret1 hF7 rfl rfl ⟨rfl, hM3.below⟩
end Go.Proofs.YtnkklogkjnfjgaaDoor
