/-
  NARROWER THAN 'FOR EVERY INPUT', by the rows' own cells (each row's printed sentence says how): ChunkWhole: laid · ChunkTails: laid · ChunkCuts: laid · ChunkSeals: laid · ChunkOpens: laid · ChunkEpochs: laid · ChunkBent: laid · PackChunks: laid.
  DERIVED. THE GIVEN ROWS OF THIS SEAT. 8 by the template 'for every input the law returns true; each argument reads behind the call as it read before'; 0 by the template 'total and deterministic' (their statements: YtdjjiblijbjobaaDoorTotals.lean).
  GIVEN WITH THE SEED: the statements are not yours to turn. If you find one false, say at which input.
  Laid BY PROGRAM, IN A SANDBOX (cutbox-rows.mjs): the forced cells as the released guide's own fill.sh prints them over the translation 01229ff5e21b3ab2… (all of the seat's roots in one cut). By AI agents, Wed Nov 11 2026. No macro, syntax, notation, axiom, sorry.
-/
import Derived.Test.YtdjjiblijbjobaaDoorChecked
import GoSem.Claim
import GoSem.ClaimJoined
import GoSem.ClaimMapViews
import Derived.JoinedTies
import Derived.KernelRfl
namespace Go.Proofs.YtdjjiblijbjobaaDoor
/- THE CELL 'sum', in the pinned program and in every row, IS THE sha256 OF THE DUMP (.gsa) THAT YtdjjiblijbjobaaDoorProg.lean LOADS. Nothing in Lean hashes anything: it is a label: what it is worth is what the hold of that sum in a sandbox is worth. -/
noncomputable def Tryd.pinned : Pinned := { name := "ytdjjiblijbjobaadoor", sum := "01229ff5e21b3ab2179d6fdefc6f537005ed0ea6e1248e87da243b4be414cf60", checked := Tryd.checked }
namespace Rows
def none {H : Type} : Left H := { results := [], args := [] }

/- WHAT THE LISTED PACKAGE-LEVEL VARIABLES READ AS WHEN THE CALL BEGINS. Each datum BY PROGRAM (the guide's laid-datum.mjs) off the statement by which the dump's own 'gosem.cut.vars' lays the variable. In a bare row this is a premise. The card (YtdjjiblijbjobaaDoorCards.lean) ties it to the program's text. -/
def laid_hibernacle_hash_eight {H : Type} : DataW H := .agg [.lit (.int .u32 1779033703), .lit (.int .u32 3144134277), .lit (.int .u32 1013904242), .lit (.int .u32 2773480762), .lit (.int .u32 1359893119), .lit (.int .u32 2600822924), .lit (.int .u32 528734635), .lit (.int .u32 1541459225)]
def laid_hibernacle_hash_rows {H : Type} : DataW H := .agg [.agg [.lit (.int .u8 0), .lit (.int .u8 1), .lit (.int .u8 2), .lit (.int .u8 3), .lit (.int .u8 4), .lit (.int .u8 5), .lit (.int .u8 6), .lit (.int .u8 7), .lit (.int .u8 8), .lit (.int .u8 9), .lit (.int .u8 10), .lit (.int .u8 11), .lit (.int .u8 12), .lit (.int .u8 13), .lit (.int .u8 14), .lit (.int .u8 15)], .agg [.lit (.int .u8 14), .lit (.int .u8 10), .lit (.int .u8 4), .lit (.int .u8 8), .lit (.int .u8 9), .lit (.int .u8 15), .lit (.int .u8 13), .lit (.int .u8 6), .lit (.int .u8 1), .lit (.int .u8 12), .lit (.int .u8 0), .lit (.int .u8 2), .lit (.int .u8 11), .lit (.int .u8 7), .lit (.int .u8 5), .lit (.int .u8 3)], .agg [.lit (.int .u8 11), .lit (.int .u8 8), .lit (.int .u8 12), .lit (.int .u8 0), .lit (.int .u8 5), .lit (.int .u8 2), .lit (.int .u8 15), .lit (.int .u8 13), .lit (.int .u8 10), .lit (.int .u8 14), .lit (.int .u8 3), .lit (.int .u8 6), .lit (.int .u8 7), .lit (.int .u8 1), .lit (.int .u8 9), .lit (.int .u8 4)], .agg [.lit (.int .u8 7), .lit (.int .u8 9), .lit (.int .u8 3), .lit (.int .u8 1), .lit (.int .u8 13), .lit (.int .u8 12), .lit (.int .u8 11), .lit (.int .u8 14), .lit (.int .u8 2), .lit (.int .u8 6), .lit (.int .u8 5), .lit (.int .u8 10), .lit (.int .u8 4), .lit (.int .u8 0), .lit (.int .u8 15), .lit (.int .u8 8)], .agg [.lit (.int .u8 9), .lit (.int .u8 0), .lit (.int .u8 5), .lit (.int .u8 7), .lit (.int .u8 2), .lit (.int .u8 4), .lit (.int .u8 10), .lit (.int .u8 15), .lit (.int .u8 14), .lit (.int .u8 1), .lit (.int .u8 11), .lit (.int .u8 12), .lit (.int .u8 6), .lit (.int .u8 8), .lit (.int .u8 3), .lit (.int .u8 13)], .agg [.lit (.int .u8 2), .lit (.int .u8 12), .lit (.int .u8 6), .lit (.int .u8 10), .lit (.int .u8 0), .lit (.int .u8 11), .lit (.int .u8 8), .lit (.int .u8 3), .lit (.int .u8 4), .lit (.int .u8 13), .lit (.int .u8 7), .lit (.int .u8 5), .lit (.int .u8 15), .lit (.int .u8 14), .lit (.int .u8 1), .lit (.int .u8 9)], .agg [.lit (.int .u8 12), .lit (.int .u8 5), .lit (.int .u8 1), .lit (.int .u8 15), .lit (.int .u8 14), .lit (.int .u8 13), .lit (.int .u8 4), .lit (.int .u8 10), .lit (.int .u8 0), .lit (.int .u8 7), .lit (.int .u8 6), .lit (.int .u8 3), .lit (.int .u8 9), .lit (.int .u8 2), .lit (.int .u8 8), .lit (.int .u8 11)], .agg [.lit (.int .u8 13), .lit (.int .u8 11), .lit (.int .u8 7), .lit (.int .u8 14), .lit (.int .u8 12), .lit (.int .u8 1), .lit (.int .u8 3), .lit (.int .u8 9), .lit (.int .u8 5), .lit (.int .u8 0), .lit (.int .u8 15), .lit (.int .u8 4), .lit (.int .u8 8), .lit (.int .u8 6), .lit (.int .u8 2), .lit (.int .u8 10)], .agg [.lit (.int .u8 6), .lit (.int .u8 15), .lit (.int .u8 14), .lit (.int .u8 9), .lit (.int .u8 11), .lit (.int .u8 3), .lit (.int .u8 0), .lit (.int .u8 8), .lit (.int .u8 12), .lit (.int .u8 2), .lit (.int .u8 13), .lit (.int .u8 7), .lit (.int .u8 1), .lit (.int .u8 4), .lit (.int .u8 10), .lit (.int .u8 5)], .agg [.lit (.int .u8 10), .lit (.int .u8 2), .lit (.int .u8 8), .lit (.int .u8 4), .lit (.int .u8 7), .lit (.int .u8 6), .lit (.int .u8 1), .lit (.int .u8 5), .lit (.int .u8 15), .lit (.int .u8 11), .lit (.int .u8 9), .lit (.int .u8 14), .lit (.int .u8 3), .lit (.int .u8 12), .lit (.int .u8 13), .lit (.int .u8 0)]]

/-- 'hibernaclelaw39.ChunkWhole': WHATEVER THE INPUT: true; the input reads as it did. -/
def chunkWholeSpec : ChangeSpec := { name := "chunkWhole", fn := fun _ => fun
  | [d] => { results := [.lit (.bool true)], args := [d] }
  | _ => none }
def chunkWholeRow : OpenClaim := { program := "ytdjjiblijbjobaadoor", sum := "01229ff5e21b3ab2179d6fdefc6f537005ed0ea6e1248e87da243b4be414cf60", func := "hibernacle/hibernaclelaw39.ChunkWhole", spec := "chunkWhole", inPlace := ["internal/abi.NoEscape", "internal/bytealg.MakeNoZero"], unfollowed := true, recurses := true, named := ["hibernacle/hash.eight", "hibernacle/hash.rows"], plainKeys := false, apart := false, laid := [("hibernacle/hash.eight", laid_hibernacle_hash_eight), ("hibernacle/hash.rows", laid_hibernacle_hash_rows)] }
def ChunkWholeSaid : Prop := chunkWholeRow.holds Tryd.pinned (OpenSpec.ofChange chunkWholeSpec)

/-- ITS FALSE NEIGHBOUR: 'it returns false'. Refute it at one input. -/
def chunkWholeWrong : ChangeSpec := { name := "chunkWhole", fn := fun _ => fun
  | [d] => { results := [.lit (.bool false)], args := [d] }
  | _ => none }
def ChunkWholeWrongFalsely : Prop := chunkWholeRow.holds Tryd.pinned (OpenSpec.ofChange chunkWholeWrong)

/-- 'hibernaclelaw39.ChunkTails': WHATEVER THE INPUT: true; the input reads as it did. -/
def chunkTailsSpec : ChangeSpec := { name := "chunkTails", fn := fun _ => fun
  | [d1, d2, d3] => { results := [.lit (.bool true)], args := [d1, d2, d3] }
  | _ => none }
def chunkTailsRow : OpenClaim := { program := "ytdjjiblijbjobaadoor", sum := "01229ff5e21b3ab2179d6fdefc6f537005ed0ea6e1248e87da243b4be414cf60", func := "hibernacle/hibernaclelaw39.ChunkTails", spec := "chunkTails", inPlace := ["internal/abi.NoEscape", "internal/bytealg.MakeNoZero"], unfollowed := true, recurses := true, named := ["hibernacle/hash.eight", "hibernacle/hash.rows"], plainKeys := false, apart := false, laid := [("hibernacle/hash.eight", laid_hibernacle_hash_eight), ("hibernacle/hash.rows", laid_hibernacle_hash_rows)] }
def ChunkTailsSaid : Prop := chunkTailsRow.holds Tryd.pinned (OpenSpec.ofChange chunkTailsSpec)

/-- ITS FALSE NEIGHBOUR: 'it returns false'. Refute it at one input. -/
def chunkTailsWrong : ChangeSpec := { name := "chunkTails", fn := fun _ => fun
  | [d1, d2, d3] => { results := [.lit (.bool false)], args := [d1, d2, d3] }
  | _ => none }
def ChunkTailsWrongFalsely : Prop := chunkTailsRow.holds Tryd.pinned (OpenSpec.ofChange chunkTailsWrong)

/-- 'hibernaclelaw39.ChunkCuts': WHATEVER THE INPUT: true; the input reads as it did. -/
def chunkCutsSpec : ChangeSpec := { name := "chunkCuts", fn := fun _ => fun
  | [d1, d2] => { results := [.lit (.bool true)], args := [d1, d2] }
  | _ => none }
def chunkCutsRow : OpenClaim := { program := "ytdjjiblijbjobaadoor", sum := "01229ff5e21b3ab2179d6fdefc6f537005ed0ea6e1248e87da243b4be414cf60", func := "hibernacle/hibernaclelaw39.ChunkCuts", spec := "chunkCuts", inPlace := ["internal/abi.NoEscape", "internal/bytealg.MakeNoZero"], unfollowed := true, recurses := true, named := ["hibernacle/hash.eight", "hibernacle/hash.rows"], plainKeys := false, apart := false, laid := [("hibernacle/hash.eight", laid_hibernacle_hash_eight), ("hibernacle/hash.rows", laid_hibernacle_hash_rows)] }
def ChunkCutsSaid : Prop := chunkCutsRow.holds Tryd.pinned (OpenSpec.ofChange chunkCutsSpec)

/-- ITS FALSE NEIGHBOUR: 'it returns false'. Refute it at one input. -/
def chunkCutsWrong : ChangeSpec := { name := "chunkCuts", fn := fun _ => fun
  | [d1, d2] => { results := [.lit (.bool false)], args := [d1, d2] }
  | _ => none }
def ChunkCutsWrongFalsely : Prop := chunkCutsRow.holds Tryd.pinned (OpenSpec.ofChange chunkCutsWrong)

/-- 'hibernaclelaw39.ChunkSeals': WHATEVER THE INPUT: true; the input reads as it did. -/
def chunkSealsSpec : ChangeSpec := { name := "chunkSeals", fn := fun _ => fun
  | [d1, d2] => { results := [.lit (.bool true)], args := [d1, d2] }
  | _ => none }
def chunkSealsRow : OpenClaim := { program := "ytdjjiblijbjobaadoor", sum := "01229ff5e21b3ab2179d6fdefc6f537005ed0ea6e1248e87da243b4be414cf60", func := "hibernacle/hibernaclelaw39.ChunkSeals", spec := "chunkSeals", inPlace := ["internal/abi.NoEscape", "internal/bytealg.MakeNoZero"], unfollowed := true, recurses := true, named := ["hibernacle/hash.eight", "hibernacle/hash.rows"], plainKeys := false, apart := false, laid := [("hibernacle/hash.eight", laid_hibernacle_hash_eight), ("hibernacle/hash.rows", laid_hibernacle_hash_rows)] }
def ChunkSealsSaid : Prop := chunkSealsRow.holds Tryd.pinned (OpenSpec.ofChange chunkSealsSpec)

/-- ITS FALSE NEIGHBOUR: 'it returns false'. Refute it at one input. -/
def chunkSealsWrong : ChangeSpec := { name := "chunkSeals", fn := fun _ => fun
  | [d1, d2] => { results := [.lit (.bool false)], args := [d1, d2] }
  | _ => none }
def ChunkSealsWrongFalsely : Prop := chunkSealsRow.holds Tryd.pinned (OpenSpec.ofChange chunkSealsWrong)

/-- 'hibernaclelaw39.ChunkOpens': WHATEVER THE INPUT: true; the input reads as it did. -/
def chunkOpensSpec : ChangeSpec := { name := "chunkOpens", fn := fun _ => fun
  | [d1, d2] => { results := [.lit (.bool true)], args := [d1, d2] }
  | _ => none }
def chunkOpensRow : OpenClaim := { program := "ytdjjiblijbjobaadoor", sum := "01229ff5e21b3ab2179d6fdefc6f537005ed0ea6e1248e87da243b4be414cf60", func := "hibernacle/hibernaclelaw39.ChunkOpens", spec := "chunkOpens", inPlace := ["internal/abi.NoEscape", "internal/bytealg.MakeNoZero"], unfollowed := true, recurses := true, named := ["hibernacle/hash.eight", "hibernacle/hash.rows"], plainKeys := false, apart := false, laid := [("hibernacle/hash.eight", laid_hibernacle_hash_eight), ("hibernacle/hash.rows", laid_hibernacle_hash_rows)] }
def ChunkOpensSaid : Prop := chunkOpensRow.holds Tryd.pinned (OpenSpec.ofChange chunkOpensSpec)

/-- ITS FALSE NEIGHBOUR: 'it returns false'. Refute it at one input. -/
def chunkOpensWrong : ChangeSpec := { name := "chunkOpens", fn := fun _ => fun
  | [d1, d2] => { results := [.lit (.bool false)], args := [d1, d2] }
  | _ => none }
def ChunkOpensWrongFalsely : Prop := chunkOpensRow.holds Tryd.pinned (OpenSpec.ofChange chunkOpensWrong)

/-- 'hibernaclelaw39.ChunkEpochs': WHATEVER THE INPUT: true; the input reads as it did. -/
def chunkEpochsSpec : ChangeSpec := { name := "chunkEpochs", fn := fun _ => fun
  | [d1, d2, d3] => { results := [.lit (.bool true)], args := [d1, d2, d3] }
  | _ => none }
def chunkEpochsRow : OpenClaim := { program := "ytdjjiblijbjobaadoor", sum := "01229ff5e21b3ab2179d6fdefc6f537005ed0ea6e1248e87da243b4be414cf60", func := "hibernacle/hibernaclelaw39.ChunkEpochs", spec := "chunkEpochs", inPlace := ["internal/abi.NoEscape", "internal/bytealg.MakeNoZero"], unfollowed := true, recurses := true, named := ["hibernacle/hash.eight", "hibernacle/hash.rows"], plainKeys := false, apart := false, laid := [("hibernacle/hash.eight", laid_hibernacle_hash_eight), ("hibernacle/hash.rows", laid_hibernacle_hash_rows)] }
def ChunkEpochsSaid : Prop := chunkEpochsRow.holds Tryd.pinned (OpenSpec.ofChange chunkEpochsSpec)

/-- ITS FALSE NEIGHBOUR: 'it returns false'. Refute it at one input. -/
def chunkEpochsWrong : ChangeSpec := { name := "chunkEpochs", fn := fun _ => fun
  | [d1, d2, d3] => { results := [.lit (.bool false)], args := [d1, d2, d3] }
  | _ => none }
def ChunkEpochsWrongFalsely : Prop := chunkEpochsRow.holds Tryd.pinned (OpenSpec.ofChange chunkEpochsWrong)

/-- 'hibernaclelaw39.ChunkBent': WHATEVER THE INPUT: true; the input reads as it did. -/
def chunkBentSpec : ChangeSpec := { name := "chunkBent", fn := fun _ => fun
  | [d1, d2, d3] => { results := [.lit (.bool true)], args := [d1, d2, d3] }
  | _ => none }
def chunkBentRow : OpenClaim := { program := "ytdjjiblijbjobaadoor", sum := "01229ff5e21b3ab2179d6fdefc6f537005ed0ea6e1248e87da243b4be414cf60", func := "hibernacle/hibernaclelaw39.ChunkBent", spec := "chunkBent", inPlace := ["internal/abi.NoEscape", "internal/bytealg.MakeNoZero"], unfollowed := true, recurses := true, named := ["hibernacle/hash.eight", "hibernacle/hash.rows"], plainKeys := false, apart := false, laid := [("hibernacle/hash.eight", laid_hibernacle_hash_eight), ("hibernacle/hash.rows", laid_hibernacle_hash_rows)] }
def ChunkBentSaid : Prop := chunkBentRow.holds Tryd.pinned (OpenSpec.ofChange chunkBentSpec)

/-- ITS FALSE NEIGHBOUR: 'it returns false'. Refute it at one input. -/
def chunkBentWrong : ChangeSpec := { name := "chunkBent", fn := fun _ => fun
  | [d1, d2, d3] => { results := [.lit (.bool false)], args := [d1, d2, d3] }
  | _ => none }
def ChunkBentWrongFalsely : Prop := chunkBentRow.holds Tryd.pinned (OpenSpec.ofChange chunkBentWrong)

/-- 'hibernaclelaw40.PackChunks': WHATEVER THE INPUT: true; the input reads as it did. -/
def packChunksSpec : ChangeSpec := { name := "packChunks", fn := fun _ => fun
  | [d1, d2] => { results := [.lit (.bool true)], args := [d1, d2] }
  | _ => none }
def packChunksRow : OpenClaim := { program := "ytdjjiblijbjobaadoor", sum := "01229ff5e21b3ab2179d6fdefc6f537005ed0ea6e1248e87da243b4be414cf60", func := "hibernacle/hibernaclelaw40.PackChunks", spec := "packChunks", inPlace := ["internal/abi.NoEscape", "internal/bytealg.MakeNoZero"], unfollowed := true, recurses := true, named := ["hibernacle/hash.eight", "hibernacle/hash.rows"], plainKeys := false, apart := false, laid := [("hibernacle/hash.eight", laid_hibernacle_hash_eight), ("hibernacle/hash.rows", laid_hibernacle_hash_rows)] }
def PackChunksSaid : Prop := packChunksRow.holds Tryd.pinned (OpenSpec.ofChange packChunksSpec)

/-- ITS FALSE NEIGHBOUR: 'it returns false'. Refute it at one input. -/
def packChunksWrong : ChangeSpec := { name := "packChunks", fn := fun _ => fun
  | [d1, d2] => { results := [.lit (.bool false)], args := [d1, d2] }
  | _ => none }
def PackChunksWrongFalsely : Prop := packChunksRow.holds Tryd.pinned (OpenSpec.ofChange packChunksWrong)

/- THE SECOND FORM. 'bulk': how many values and letters a reading holds, each counted each time it is reached (what is shared counts as often as it is met; a slice's spare places count too). A statement '..UptoSaid' is the law's where the arguments, and the package variables that the reading takes, are together of bulk at most 1048576: NARROWER than '..Said'. Prove '..Said' where nothing that the law and all that it calls make is longer than what came in: it says more and counts as full. Else prove '..UptoSaid'. A law counts once. -/
mutual
def uptoBulk {H : Type} : DataW H → Nat
  | .lit (.string bytes) => bytes.length + 1
  | .lit _ => 1
  | .nil => 1
  | .ptr d => uptoBulk d + 1
  | .slice elems spare => uptoBulkAll elems + uptoBulkAll spare + 1
  | .agg parts => uptoBulkAll parts + 1
  | .iface _ d => uptoBulk d + 1
  | .map entries => uptoBulkEntries entries + 1
  | .held _ => 1
def uptoBulkAll {H : Type} : List (DataW H) → Nat
  | [] => 0
  | d :: r => uptoBulk d + uptoBulkAll r
def uptoBulkEntries {H : Type} : List (Lit × DataW H) → Nat
  | [] => 0
  | x :: r => uptoBulkEntry x + uptoBulkEntries r
def uptoBulkEntry {H : Type} : Lit × DataW H → Nat
  | (.string bytes, d) => bytes.length + uptoBulk d + 1
  | (_, d) => uptoBulk d + 1
 end
def uptoSmall : (H : Type) → List (DataW H) → Bool := fun _ ds => decide (uptoBulkAll ds ≤ 1048576)
def OpenSpec.upto (s : _root_.Go.ChangeSpec) : _root_.Go.OpenSpec := { _root_.Go.OpenSpec.ofChange s with cond := some uptoSmall }

/-- 'hibernaclelaw39.ChunkWhole', WHERE WHAT IT READS IS OF BULK AT MOST 1048576: true; the input reads as it did. -/
def chunkWholeUptoRow : OpenClaim := { program := "ytdjjiblijbjobaadoor", sum := "01229ff5e21b3ab2179d6fdefc6f537005ed0ea6e1248e87da243b4be414cf60", func := "hibernacle/hibernaclelaw39.ChunkWhole", spec := "chunkWhole", inPlace := ["internal/abi.NoEscape", "internal/bytealg.MakeNoZero"], unfollowed := true, recurses := true, named := ["hibernacle/hash.eight", "hibernacle/hash.rows"], plainKeys := false, apart := false, laid := [("hibernacle/hash.eight", laid_hibernacle_hash_eight), ("hibernacle/hash.rows", laid_hibernacle_hash_rows)], narrowed := true }
def ChunkWholeUptoSaid : Prop := chunkWholeUptoRow.holds Tryd.pinned (OpenSpec.upto chunkWholeSpec)

/-- 'hibernaclelaw39.ChunkTails', WHERE WHAT IT READS IS OF BULK AT MOST 1048576: true; the input reads as it did. -/
def chunkTailsUptoRow : OpenClaim := { program := "ytdjjiblijbjobaadoor", sum := "01229ff5e21b3ab2179d6fdefc6f537005ed0ea6e1248e87da243b4be414cf60", func := "hibernacle/hibernaclelaw39.ChunkTails", spec := "chunkTails", inPlace := ["internal/abi.NoEscape", "internal/bytealg.MakeNoZero"], unfollowed := true, recurses := true, named := ["hibernacle/hash.eight", "hibernacle/hash.rows"], plainKeys := false, apart := false, laid := [("hibernacle/hash.eight", laid_hibernacle_hash_eight), ("hibernacle/hash.rows", laid_hibernacle_hash_rows)], narrowed := true }
def ChunkTailsUptoSaid : Prop := chunkTailsUptoRow.holds Tryd.pinned (OpenSpec.upto chunkTailsSpec)

/-- 'hibernaclelaw39.ChunkCuts', WHERE WHAT IT READS IS OF BULK AT MOST 1048576: true; the input reads as it did. -/
def chunkCutsUptoRow : OpenClaim := { program := "ytdjjiblijbjobaadoor", sum := "01229ff5e21b3ab2179d6fdefc6f537005ed0ea6e1248e87da243b4be414cf60", func := "hibernacle/hibernaclelaw39.ChunkCuts", spec := "chunkCuts", inPlace := ["internal/abi.NoEscape", "internal/bytealg.MakeNoZero"], unfollowed := true, recurses := true, named := ["hibernacle/hash.eight", "hibernacle/hash.rows"], plainKeys := false, apart := false, laid := [("hibernacle/hash.eight", laid_hibernacle_hash_eight), ("hibernacle/hash.rows", laid_hibernacle_hash_rows)], narrowed := true }
def ChunkCutsUptoSaid : Prop := chunkCutsUptoRow.holds Tryd.pinned (OpenSpec.upto chunkCutsSpec)

/-- 'hibernaclelaw39.ChunkSeals', WHERE WHAT IT READS IS OF BULK AT MOST 1048576: true; the input reads as it did. -/
def chunkSealsUptoRow : OpenClaim := { program := "ytdjjiblijbjobaadoor", sum := "01229ff5e21b3ab2179d6fdefc6f537005ed0ea6e1248e87da243b4be414cf60", func := "hibernacle/hibernaclelaw39.ChunkSeals", spec := "chunkSeals", inPlace := ["internal/abi.NoEscape", "internal/bytealg.MakeNoZero"], unfollowed := true, recurses := true, named := ["hibernacle/hash.eight", "hibernacle/hash.rows"], plainKeys := false, apart := false, laid := [("hibernacle/hash.eight", laid_hibernacle_hash_eight), ("hibernacle/hash.rows", laid_hibernacle_hash_rows)], narrowed := true }
def ChunkSealsUptoSaid : Prop := chunkSealsUptoRow.holds Tryd.pinned (OpenSpec.upto chunkSealsSpec)

/-- 'hibernaclelaw39.ChunkOpens', WHERE WHAT IT READS IS OF BULK AT MOST 1048576: true; the input reads as it did. -/
def chunkOpensUptoRow : OpenClaim := { program := "ytdjjiblijbjobaadoor", sum := "01229ff5e21b3ab2179d6fdefc6f537005ed0ea6e1248e87da243b4be414cf60", func := "hibernacle/hibernaclelaw39.ChunkOpens", spec := "chunkOpens", inPlace := ["internal/abi.NoEscape", "internal/bytealg.MakeNoZero"], unfollowed := true, recurses := true, named := ["hibernacle/hash.eight", "hibernacle/hash.rows"], plainKeys := false, apart := false, laid := [("hibernacle/hash.eight", laid_hibernacle_hash_eight), ("hibernacle/hash.rows", laid_hibernacle_hash_rows)], narrowed := true }
def ChunkOpensUptoSaid : Prop := chunkOpensUptoRow.holds Tryd.pinned (OpenSpec.upto chunkOpensSpec)

/-- 'hibernaclelaw39.ChunkEpochs', WHERE WHAT IT READS IS OF BULK AT MOST 1048576: true; the input reads as it did. -/
def chunkEpochsUptoRow : OpenClaim := { program := "ytdjjiblijbjobaadoor", sum := "01229ff5e21b3ab2179d6fdefc6f537005ed0ea6e1248e87da243b4be414cf60", func := "hibernacle/hibernaclelaw39.ChunkEpochs", spec := "chunkEpochs", inPlace := ["internal/abi.NoEscape", "internal/bytealg.MakeNoZero"], unfollowed := true, recurses := true, named := ["hibernacle/hash.eight", "hibernacle/hash.rows"], plainKeys := false, apart := false, laid := [("hibernacle/hash.eight", laid_hibernacle_hash_eight), ("hibernacle/hash.rows", laid_hibernacle_hash_rows)], narrowed := true }
def ChunkEpochsUptoSaid : Prop := chunkEpochsUptoRow.holds Tryd.pinned (OpenSpec.upto chunkEpochsSpec)

/-- 'hibernaclelaw39.ChunkBent', WHERE WHAT IT READS IS OF BULK AT MOST 1048576: true; the input reads as it did. -/
def chunkBentUptoRow : OpenClaim := { program := "ytdjjiblijbjobaadoor", sum := "01229ff5e21b3ab2179d6fdefc6f537005ed0ea6e1248e87da243b4be414cf60", func := "hibernacle/hibernaclelaw39.ChunkBent", spec := "chunkBent", inPlace := ["internal/abi.NoEscape", "internal/bytealg.MakeNoZero"], unfollowed := true, recurses := true, named := ["hibernacle/hash.eight", "hibernacle/hash.rows"], plainKeys := false, apart := false, laid := [("hibernacle/hash.eight", laid_hibernacle_hash_eight), ("hibernacle/hash.rows", laid_hibernacle_hash_rows)], narrowed := true }
def ChunkBentUptoSaid : Prop := chunkBentUptoRow.holds Tryd.pinned (OpenSpec.upto chunkBentSpec)

/-- 'hibernaclelaw40.PackChunks', WHERE WHAT IT READS IS OF BULK AT MOST 1048576: true; the input reads as it did. -/
def packChunksUptoRow : OpenClaim := { program := "ytdjjiblijbjobaadoor", sum := "01229ff5e21b3ab2179d6fdefc6f537005ed0ea6e1248e87da243b4be414cf60", func := "hibernacle/hibernaclelaw40.PackChunks", spec := "packChunks", inPlace := ["internal/abi.NoEscape", "internal/bytealg.MakeNoZero"], unfollowed := true, recurses := true, named := ["hibernacle/hash.eight", "hibernacle/hash.rows"], plainKeys := false, apart := false, laid := [("hibernacle/hash.eight", laid_hibernacle_hash_eight), ("hibernacle/hash.rows", laid_hibernacle_hash_rows)], narrowed := true }
def PackChunksUptoSaid : Prop := packChunksUptoRow.holds Tryd.pinned (OpenSpec.upto packChunksSpec)

end Rows
end Go.Proofs.YtdjjiblijbjobaaDoor
