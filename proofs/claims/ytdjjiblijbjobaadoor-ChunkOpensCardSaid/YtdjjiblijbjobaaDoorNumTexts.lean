/- The walks of num.length and num.Texts. Printed by gen_num.py. -/
import Derived.Test.YtdjjiblijbjobaaDoorOpsB
namespace Go.Proofs.YtdjjiblijbjobaaDoor
open Go.RowKit

/-- what a length came to, when i bytes of it stood ahead and made n. -/
def lenAcc (i n : Nat) : Except Int (Nat × List UInt8) → Except Int (Nat × List UInt8)
  | .ok (m, x) => .ok (n + m * 128 ^ i, x)
  | .error e => .error e
/-- what num.length hands back. -/
def lenR (b : List UInt8) : Value := match lenP 0 b with
  | .ok (n, x) => .tuple #[.int .i64 (n : Int), .int .i64 ((b.length - x.length : Nat) : Int), .int .i64 0]
  | .error e => .tuple #[.int .i64 0, .int .i64 0, .int .i64 e]
theorem elStr : ElT Tryd.prog 23 9 1 16 := by
  obtain ⟨i, h1, h2, h3, h4⟩ := info_parts (show (Tryd.prog.info? 9).map (fun i => (i.zero, i.size, i.bytes)) = some (some (.string ⟨#[]⟩), 1, 16) by kernel_rfl)
  exact ⟨Tryd.underlying23, ⟨i, _, h1, h2, h3, h4, rfl⟩, by decide⟩
/-- the texts when some stood ahead. -/
def txAcc (d : List (List UInt8)) : Except Int (List (List UInt8)) → Except Int (List (List UInt8))
  | .ok l => .ok (d ++ l)
  | .error e => .error e
/-- what Texts hands back. -/
def TxR (b : List UInt8) (base : Nat) (u : Value) (w : World) : Prop := match textsS b with
  | .ok l => ∃ v, u = .tuple #[v, .int .i64 0] ∧ w.ownsRow base 9 1 v l.length (l.map tx)
  | .error e => u = .tuple #[.slice none 0 0, .int .i64 e]
end Go.Proofs.YtdjjiblijbjobaaDoor
