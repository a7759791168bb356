/- The walk of the library's rotation by any constant whose lowest five bits are k. -/
import Derived.Test.YtilbebjjmnncdaaDoorRot
namespace Go.Proofs.YtilbebjjmnncdaaDoor
open Go.RowKit

set_option maxHeartbeats 400000 in
theorem rotz_any (x : Wd) (z : Int) (k : Nat) (hk : k < 32) (hk0 : 0 < k) (e1 : bits BinOp.and IntKind.u64 (IntKind.u64.wrap z) 31 = (k : Int)) (w : World) :
    Calls Tryd.prog 69 #[.int .u32 (nm x), .int .i64 z] w fun e w' => e = .returned (.int .u32 (nm (rl x k))) ∧ w' = w := by
  have H := Lib.hid (nm_rl x k hk)
  go_enter Tryd.func69, Tryd.ntmps69
  go_wp2
  go_ret
  exact ⟨ret_int H.out, rfl⟩
end Go.Proofs.YtilbebjjmnncdaaDoor
