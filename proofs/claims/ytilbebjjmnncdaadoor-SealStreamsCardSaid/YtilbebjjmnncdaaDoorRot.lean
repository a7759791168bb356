/- The walks of ChaCha20's inner parts: a rotation, a quarter round in a closure. -/
import Derived.Test.YtilbebjjmnncdaaDoorRows
import Derived.Test.YtilbebjjmnncdaaDoorPlain
import Derived.WalkSpells
import Derived.WalkLawsBesides
import Derived.StillTailTactics
import Derived.Lib.Hide
namespace Go.Proofs.YtilbebjjmnncdaaDoor
open Go.RowKit

set_option maxHeartbeats 400000 in
theorem rot_any (x : Wd) (k : Nat) (hk : k < 32) (hk0 : 0 < k) (w : World) :
    Calls Tryd.prog 69 #[.int .u32 (nm x), .int .i64 k] w fun e w' => e = .returned (.int .u32 (nm (rl x k))) ∧ w' = w := by
  have e1 : bits BinOp.and IntKind.u64 (k : Int) 31 = (k : Int) := by
    obtain ⟨k, rfl⟩ : ∃ f : Fin 32, f.val = k := ⟨⟨k, hk⟩, rfl⟩
    revert k; decide
  have H := Lib.hid (nm_rl x k hk)
  go_enter Tryd.func69, Tryd.ntmps69
  go_wp2
  go_ret
  exact ⟨ret_int H.out, rfl⟩
end Go.Proofs.YtilbebjjmnncdaaDoor
