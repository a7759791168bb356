/- four bytes as a word -/
import Derived.Test.YtilbebjjmnncdaaDoorRot
namespace Go.Proofs.YtilbebjjmnncdaaDoor
open Go.RowKit

set_option maxRecDepth 100000 in
set_option maxHeartbeats 1000000 in
theorem word_any (g off len cap : Nat) (b0 b1 b2 b3 : UInt8) (w : World) (hlen : 4 ≤ len)
    (c0 : w.cell? ⟨g, off, none⟩ = some (.int .u8 (b0.toNat : Int))) (c1 : w.cell? ⟨g, off + 1, none⟩ = some (.int .u8 (b1.toNat : Int)))
    (c2 : w.cell? ⟨g, off + 2, none⟩ = some (.int .u8 (b2.toNat : Int))) (c3 : w.cell? ⟨g, off + 3, none⟩ = some (.int .u8 (b3.toNat : Int))) :
    Calls Tryd.prog 78 #[.slice (some ⟨g, off, none⟩) len cap] w fun e w' =>
      e = .returned (.int .u32 (nm (wd b0 b1 b2 b3))) ∧ w' = w.drew := by
  have l0 : 0 < len := by omega
  have l1 : (1 : Int) < (len : Int) := by omega
  have l2 : (2 : Int) < (len : Int) := by omega
  have l3 : (3 : Int) < (len : Int) := by omega
  go_enter Tryd.func78, Tryd.ntmps78
  go_wp2
  refine wp_region_still_lit (by kernel_rfl) (by kernel_rfl) ?_
  change wpStill _ _ w.drew _ _ _
  repeat still_step
  refine wpStill_nil ?_
  go_wp2
  go_ret
  exact ⟨ret_int (word_eq b0 b1 b2 b3), rfl⟩
end Go.Proofs.YtilbebjjmnncdaaDoor
