/-
  NARROWER THAN 'FOR EVERY INPUT', by the rows' own cells (each row's printed sentence says how): KeysMake: laid · KeysRotate: laid · KeysOpen: laid · KeysThree: laid · KeysBlind: laid · KeysFront: laid · KeysTold: laid · KeysStay: laid · KeysBytes: laid.
  DERIVED. THE GIVEN ROWS OF THIS SEAT. 9 by the template 'for every input the law returns true; each argument reads behind the call as it read before'; 0 by the template 'total and deterministic' (their statements: YtconhhhggckcbaaDoorTotals.lean).
  GIVEN WITH THE SEED: the statements are not yours to turn. If you find one false, say at which input.
  Laid BY PROGRAM, IN A SANDBOX (cutbox-rows.mjs): the forced cells as the released guide's own fill.sh prints them over the translation d7c418857289c333… (all of the seat's roots in one cut). By AI agents, Wed Nov 11 2026. No macro, syntax, notation, axiom, sorry.
-/
import Derived.Test.YtconhhhggckcbaaDoorChecked
import GoSem.Claim
import GoSem.ClaimJoined
import GoSem.ClaimMapViews
import Derived.JoinedTies
import Derived.KernelRfl
namespace Go.Proofs.YtconhhhggckcbaaDoor
/- THE CELL 'sum', in the pinned program and in every row, IS THE sha256 OF THE DUMP (.gsa) THAT YtconhhhggckcbaaDoorProg.lean LOADS. Nothing in Lean hashes anything: it is a label: what it is worth is what the hold of that sum in a sandbox is worth. -/
noncomputable def Tryd.pinned : Pinned := { name := "ytconhhhggckcbaadoor", sum := "d7c418857289c3330ee877f08e0a8cbf9dcd4bb777a1048aa633bbd1d7709d7d", checked := Tryd.checked }
namespace Rows
def none {H : Type} : Left H := { results := [], args := [] }

/- WHAT THE LISTED PACKAGE-LEVEL VARIABLES READ AS WHEN THE CALL BEGINS. Each datum BY PROGRAM (the guide's laid-datum.mjs) off the statement by which the dump's own 'gosem.cut.vars' lays the variable. In a bare row this is a premise. The card (YtconhhhggckcbaaDoorCards.lean) ties it to the program's text. -/
def laid_hibernacle_hash_eight {H : Type} : DataW H := .agg [.lit (.int .u32 1779033703), .lit (.int .u32 3144134277), .lit (.int .u32 1013904242), .lit (.int .u32 2773480762), .lit (.int .u32 1359893119), .lit (.int .u32 2600822924), .lit (.int .u32 528734635), .lit (.int .u32 1541459225)]
def laid_hibernacle_hash_rows {H : Type} : DataW H := .agg [.agg [.lit (.int .u8 0), .lit (.int .u8 1), .lit (.int .u8 2), .lit (.int .u8 3), .lit (.int .u8 4), .lit (.int .u8 5), .lit (.int .u8 6), .lit (.int .u8 7), .lit (.int .u8 8), .lit (.int .u8 9), .lit (.int .u8 10), .lit (.int .u8 11), .lit (.int .u8 12), .lit (.int .u8 13), .lit (.int .u8 14), .lit (.int .u8 15)], .agg [.lit (.int .u8 14), .lit (.int .u8 10), .lit (.int .u8 4), .lit (.int .u8 8), .lit (.int .u8 9), .lit (.int .u8 15), .lit (.int .u8 13), .lit (.int .u8 6), .lit (.int .u8 1), .lit (.int .u8 12), .lit (.int .u8 0), .lit (.int .u8 2), .lit (.int .u8 11), .lit (.int .u8 7), .lit (.int .u8 5), .lit (.int .u8 3)], .agg [.lit (.int .u8 11), .lit (.int .u8 8), .lit (.int .u8 12), .lit (.int .u8 0), .lit (.int .u8 5), .lit (.int .u8 2), .lit (.int .u8 15), .lit (.int .u8 13), .lit (.int .u8 10), .lit (.int .u8 14), .lit (.int .u8 3), .lit (.int .u8 6), .lit (.int .u8 7), .lit (.int .u8 1), .lit (.int .u8 9), .lit (.int .u8 4)], .agg [.lit (.int .u8 7), .lit (.int .u8 9), .lit (.int .u8 3), .lit (.int .u8 1), .lit (.int .u8 13), .lit (.int .u8 12), .lit (.int .u8 11), .lit (.int .u8 14), .lit (.int .u8 2), .lit (.int .u8 6), .lit (.int .u8 5), .lit (.int .u8 10), .lit (.int .u8 4), .lit (.int .u8 0), .lit (.int .u8 15), .lit (.int .u8 8)], .agg [.lit (.int .u8 9), .lit (.int .u8 0), .lit (.int .u8 5), .lit (.int .u8 7), .lit (.int .u8 2), .lit (.int .u8 4), .lit (.int .u8 10), .lit (.int .u8 15), .lit (.int .u8 14), .lit (.int .u8 1), .lit (.int .u8 11), .lit (.int .u8 12), .lit (.int .u8 6), .lit (.int .u8 8), .lit (.int .u8 3), .lit (.int .u8 13)], .agg [.lit (.int .u8 2), .lit (.int .u8 12), .lit (.int .u8 6), .lit (.int .u8 10), .lit (.int .u8 0), .lit (.int .u8 11), .lit (.int .u8 8), .lit (.int .u8 3), .lit (.int .u8 4), .lit (.int .u8 13), .lit (.int .u8 7), .lit (.int .u8 5), .lit (.int .u8 15), .lit (.int .u8 14), .lit (.int .u8 1), .lit (.int .u8 9)], .agg [.lit (.int .u8 12), .lit (.int .u8 5), .lit (.int .u8 1), .lit (.int .u8 15), .lit (.int .u8 14), .lit (.int .u8 13), .lit (.int .u8 4), .lit (.int .u8 10), .lit (.int .u8 0), .lit (.int .u8 7), .lit (.int .u8 6), .lit (.int .u8 3), .lit (.int .u8 9), .lit (.int .u8 2), .lit (.int .u8 8), .lit (.int .u8 11)], .agg [.lit (.int .u8 13), .lit (.int .u8 11), .lit (.int .u8 7), .lit (.int .u8 14), .lit (.int .u8 12), .lit (.int .u8 1), .lit (.int .u8 3), .lit (.int .u8 9), .lit (.int .u8 5), .lit (.int .u8 0), .lit (.int .u8 15), .lit (.int .u8 4), .lit (.int .u8 8), .lit (.int .u8 6), .lit (.int .u8 2), .lit (.int .u8 10)], .agg [.lit (.int .u8 6), .lit (.int .u8 15), .lit (.int .u8 14), .lit (.int .u8 9), .lit (.int .u8 11), .lit (.int .u8 3), .lit (.int .u8 0), .lit (.int .u8 8), .lit (.int .u8 12), .lit (.int .u8 2), .lit (.int .u8 13), .lit (.int .u8 7), .lit (.int .u8 1), .lit (.int .u8 4), .lit (.int .u8 10), .lit (.int .u8 5)], .agg [.lit (.int .u8 10), .lit (.int .u8 2), .lit (.int .u8 8), .lit (.int .u8 4), .lit (.int .u8 7), .lit (.int .u8 6), .lit (.int .u8 1), .lit (.int .u8 5), .lit (.int .u8 15), .lit (.int .u8 11), .lit (.int .u8 9), .lit (.int .u8 14), .lit (.int .u8 3), .lit (.int .u8 12), .lit (.int .u8 13), .lit (.int .u8 0)]]

/-- 'hibernaclelaw38.KeysMake': WHATEVER THE INPUT: true; the input reads as it did. -/
def keysMakeSpec : ChangeSpec := { name := "keysMake", fn := fun _ => fun
  | [d1, d2] => { results := [.lit (.bool true)], args := [d1, d2] }
  | _ => none }
def keysMakeRow : OpenClaim := { program := "ytconhhhggckcbaadoor", sum := "d7c418857289c3330ee877f08e0a8cbf9dcd4bb777a1048aa633bbd1d7709d7d", func := "hibernacle/hibernaclelaw38.KeysMake", spec := "keysMake", inPlace := ["internal/abi.NoEscape", "internal/bytealg.MakeNoZero"], unfollowed := true, recurses := true, named := ["hibernacle/hash.eight", "hibernacle/hash.rows"], apart := false, laid := [("hibernacle/hash.eight", laid_hibernacle_hash_eight), ("hibernacle/hash.rows", laid_hibernacle_hash_rows)] }
def KeysMakeSaid : Prop := keysMakeRow.holds Tryd.pinned (OpenSpec.ofChange keysMakeSpec)

/-- ITS FALSE NEIGHBOUR: 'it returns false'. Refute it at one input. -/
def keysMakeWrong : ChangeSpec := { name := "keysMake", fn := fun _ => fun
  | [d1, d2] => { results := [.lit (.bool false)], args := [d1, d2] }
  | _ => none }
def KeysMakeWrongFalsely : Prop := keysMakeRow.holds Tryd.pinned (OpenSpec.ofChange keysMakeWrong)

/-- 'hibernaclelaw38.KeysRotate': WHATEVER THE INPUT: true; the input reads as it did. -/
def keysRotateSpec : ChangeSpec := { name := "keysRotate", fn := fun _ => fun
  | [d1, d2, d3, d4] => { results := [.lit (.bool true)], args := [d1, d2, d3, d4] }
  | _ => none }
def keysRotateRow : OpenClaim := { program := "ytconhhhggckcbaadoor", sum := "d7c418857289c3330ee877f08e0a8cbf9dcd4bb777a1048aa633bbd1d7709d7d", func := "hibernacle/hibernaclelaw38.KeysRotate", spec := "keysRotate", inPlace := ["internal/abi.NoEscape", "internal/bytealg.MakeNoZero"], unfollowed := true, recurses := true, named := ["hibernacle/hash.eight", "hibernacle/hash.rows"], apart := false, laid := [("hibernacle/hash.eight", laid_hibernacle_hash_eight), ("hibernacle/hash.rows", laid_hibernacle_hash_rows)] }
def KeysRotateSaid : Prop := keysRotateRow.holds Tryd.pinned (OpenSpec.ofChange keysRotateSpec)

/-- ITS FALSE NEIGHBOUR: 'it returns false'. Refute it at one input. -/
def keysRotateWrong : ChangeSpec := { name := "keysRotate", fn := fun _ => fun
  | [d1, d2, d3, d4] => { results := [.lit (.bool false)], args := [d1, d2, d3, d4] }
  | _ => none }
def KeysRotateWrongFalsely : Prop := keysRotateRow.holds Tryd.pinned (OpenSpec.ofChange keysRotateWrong)

/-- 'hibernaclelaw38.KeysOpen': WHATEVER THE INPUT: true; the input reads as it did. -/
def keysOpenSpec : ChangeSpec := { name := "keysOpen", fn := fun _ => fun
  | [d1, d2] => { results := [.lit (.bool true)], args := [d1, d2] }
  | _ => none }
def keysOpenRow : OpenClaim := { program := "ytconhhhggckcbaadoor", sum := "d7c418857289c3330ee877f08e0a8cbf9dcd4bb777a1048aa633bbd1d7709d7d", func := "hibernacle/hibernaclelaw38.KeysOpen", spec := "keysOpen", inPlace := ["internal/abi.NoEscape", "internal/bytealg.MakeNoZero"], unfollowed := true, recurses := true, named := ["hibernacle/hash.eight", "hibernacle/hash.rows"], apart := false, laid := [("hibernacle/hash.eight", laid_hibernacle_hash_eight), ("hibernacle/hash.rows", laid_hibernacle_hash_rows)] }
def KeysOpenSaid : Prop := keysOpenRow.holds Tryd.pinned (OpenSpec.ofChange keysOpenSpec)

/-- ITS FALSE NEIGHBOUR: 'it returns false'. Refute it at one input. -/
def keysOpenWrong : ChangeSpec := { name := "keysOpen", fn := fun _ => fun
  | [d1, d2] => { results := [.lit (.bool false)], args := [d1, d2] }
  | _ => none }
def KeysOpenWrongFalsely : Prop := keysOpenRow.holds Tryd.pinned (OpenSpec.ofChange keysOpenWrong)

/-- 'hibernaclelaw38.KeysThree': WHATEVER THE INPUT: true; the input reads as it did. -/
def keysThreeSpec : ChangeSpec := { name := "keysThree", fn := fun _ => fun
  | [d1, d2, d3, d4] => { results := [.lit (.bool true)], args := [d1, d2, d3, d4] }
  | _ => none }
def keysThreeRow : OpenClaim := { program := "ytconhhhggckcbaadoor", sum := "d7c418857289c3330ee877f08e0a8cbf9dcd4bb777a1048aa633bbd1d7709d7d", func := "hibernacle/hibernaclelaw38.KeysThree", spec := "keysThree", inPlace := ["internal/abi.NoEscape", "internal/bytealg.MakeNoZero"], unfollowed := true, recurses := true, named := ["hibernacle/hash.eight", "hibernacle/hash.rows"], apart := false, laid := [("hibernacle/hash.eight", laid_hibernacle_hash_eight), ("hibernacle/hash.rows", laid_hibernacle_hash_rows)] }
def KeysThreeSaid : Prop := keysThreeRow.holds Tryd.pinned (OpenSpec.ofChange keysThreeSpec)

/-- ITS FALSE NEIGHBOUR: 'it returns false'. Refute it at one input. -/
def keysThreeWrong : ChangeSpec := { name := "keysThree", fn := fun _ => fun
  | [d1, d2, d3, d4] => { results := [.lit (.bool false)], args := [d1, d2, d3, d4] }
  | _ => none }
def KeysThreeWrongFalsely : Prop := keysThreeRow.holds Tryd.pinned (OpenSpec.ofChange keysThreeWrong)

/-- 'hibernaclelaw38.KeysBlind': WHATEVER THE INPUT: true; the input reads as it did. -/
def keysBlindSpec : ChangeSpec := { name := "keysBlind", fn := fun _ => fun
  | [d1, d2, d3, d4] => { results := [.lit (.bool true)], args := [d1, d2, d3, d4] }
  | _ => none }
def keysBlindRow : OpenClaim := { program := "ytconhhhggckcbaadoor", sum := "d7c418857289c3330ee877f08e0a8cbf9dcd4bb777a1048aa633bbd1d7709d7d", func := "hibernacle/hibernaclelaw38.KeysBlind", spec := "keysBlind", inPlace := ["internal/abi.NoEscape", "internal/bytealg.MakeNoZero"], unfollowed := true, recurses := true, named := ["hibernacle/hash.eight", "hibernacle/hash.rows"], apart := false, laid := [("hibernacle/hash.eight", laid_hibernacle_hash_eight), ("hibernacle/hash.rows", laid_hibernacle_hash_rows)] }
def KeysBlindSaid : Prop := keysBlindRow.holds Tryd.pinned (OpenSpec.ofChange keysBlindSpec)

/-- ITS FALSE NEIGHBOUR: 'it returns false'. Refute it at one input. -/
def keysBlindWrong : ChangeSpec := { name := "keysBlind", fn := fun _ => fun
  | [d1, d2, d3, d4] => { results := [.lit (.bool false)], args := [d1, d2, d3, d4] }
  | _ => none }
def KeysBlindWrongFalsely : Prop := keysBlindRow.holds Tryd.pinned (OpenSpec.ofChange keysBlindWrong)

/-- 'hibernaclelaw38.KeysFront': WHATEVER THE INPUT: true; the input reads as it did. -/
def keysFrontSpec : ChangeSpec := { name := "keysFront", fn := fun _ => fun
  | [d1, d2, d3] => { results := [.lit (.bool true)], args := [d1, d2, d3] }
  | _ => none }
def keysFrontRow : OpenClaim := { program := "ytconhhhggckcbaadoor", sum := "d7c418857289c3330ee877f08e0a8cbf9dcd4bb777a1048aa633bbd1d7709d7d", func := "hibernacle/hibernaclelaw38.KeysFront", spec := "keysFront", inPlace := ["internal/abi.NoEscape", "internal/bytealg.MakeNoZero"], unfollowed := true, recurses := true, named := ["hibernacle/hash.eight", "hibernacle/hash.rows"], apart := false, laid := [("hibernacle/hash.eight", laid_hibernacle_hash_eight), ("hibernacle/hash.rows", laid_hibernacle_hash_rows)] }
def KeysFrontSaid : Prop := keysFrontRow.holds Tryd.pinned (OpenSpec.ofChange keysFrontSpec)

/-- ITS FALSE NEIGHBOUR: 'it returns false'. Refute it at one input. -/
def keysFrontWrong : ChangeSpec := { name := "keysFront", fn := fun _ => fun
  | [d1, d2, d3] => { results := [.lit (.bool false)], args := [d1, d2, d3] }
  | _ => none }
def KeysFrontWrongFalsely : Prop := keysFrontRow.holds Tryd.pinned (OpenSpec.ofChange keysFrontWrong)

/-- 'hibernaclelaw38.KeysTold': WHATEVER THE INPUT: true; the input reads as it did. -/
def keysToldSpec : ChangeSpec := { name := "keysTold", fn := fun _ => fun
  | [d1, d2] => { results := [.lit (.bool true)], args := [d1, d2] }
  | _ => none }
def keysToldRow : OpenClaim := { program := "ytconhhhggckcbaadoor", sum := "d7c418857289c3330ee877f08e0a8cbf9dcd4bb777a1048aa633bbd1d7709d7d", func := "hibernacle/hibernaclelaw38.KeysTold", spec := "keysTold", inPlace := ["internal/abi.NoEscape", "internal/bytealg.MakeNoZero"], unfollowed := true, recurses := true, named := ["hibernacle/hash.eight", "hibernacle/hash.rows"], apart := false, laid := [("hibernacle/hash.eight", laid_hibernacle_hash_eight), ("hibernacle/hash.rows", laid_hibernacle_hash_rows)] }
def KeysToldSaid : Prop := keysToldRow.holds Tryd.pinned (OpenSpec.ofChange keysToldSpec)

/-- ITS FALSE NEIGHBOUR: 'it returns false'. Refute it at one input. -/
def keysToldWrong : ChangeSpec := { name := "keysTold", fn := fun _ => fun
  | [d1, d2] => { results := [.lit (.bool false)], args := [d1, d2] }
  | _ => none }
def KeysToldWrongFalsely : Prop := keysToldRow.holds Tryd.pinned (OpenSpec.ofChange keysToldWrong)

/-- 'hibernaclelaw38.KeysStay': WHATEVER THE INPUT: true; the input reads as it did. -/
def keysStaySpec : ChangeSpec := { name := "keysStay", fn := fun _ => fun
  | [d1, d2] => { results := [.lit (.bool true)], args := [d1, d2] }
  | _ => none }
def keysStayRow : OpenClaim := { program := "ytconhhhggckcbaadoor", sum := "d7c418857289c3330ee877f08e0a8cbf9dcd4bb777a1048aa633bbd1d7709d7d", func := "hibernacle/hibernaclelaw38.KeysStay", spec := "keysStay", inPlace := ["internal/abi.NoEscape", "internal/bytealg.MakeNoZero"], unfollowed := true, recurses := true, named := ["hibernacle/hash.eight", "hibernacle/hash.rows"], apart := false, laid := [("hibernacle/hash.eight", laid_hibernacle_hash_eight), ("hibernacle/hash.rows", laid_hibernacle_hash_rows)] }
def KeysStaySaid : Prop := keysStayRow.holds Tryd.pinned (OpenSpec.ofChange keysStaySpec)

/-- ITS FALSE NEIGHBOUR: 'it returns false'. Refute it at one input. -/
def keysStayWrong : ChangeSpec := { name := "keysStay", fn := fun _ => fun
  | [d1, d2] => { results := [.lit (.bool false)], args := [d1, d2] }
  | _ => none }
def KeysStayWrongFalsely : Prop := keysStayRow.holds Tryd.pinned (OpenSpec.ofChange keysStayWrong)

/-- 'hibernaclelaw38.KeysBytes': WHATEVER THE INPUT: true; the input reads as it did. -/
def keysBytesSpec : ChangeSpec := { name := "keysBytes", fn := fun _ => fun
  | [d1, d2] => { results := [.lit (.bool true)], args := [d1, d2] }
  | _ => none }
def keysBytesRow : OpenClaim := { program := "ytconhhhggckcbaadoor", sum := "d7c418857289c3330ee877f08e0a8cbf9dcd4bb777a1048aa633bbd1d7709d7d", func := "hibernacle/hibernaclelaw38.KeysBytes", spec := "keysBytes", inPlace := ["internal/abi.NoEscape", "internal/bytealg.MakeNoZero"], unfollowed := true, recurses := true, named := ["hibernacle/hash.eight", "hibernacle/hash.rows"], apart := false, laid := [("hibernacle/hash.eight", laid_hibernacle_hash_eight), ("hibernacle/hash.rows", laid_hibernacle_hash_rows)] }
def KeysBytesSaid : Prop := keysBytesRow.holds Tryd.pinned (OpenSpec.ofChange keysBytesSpec)

/-- ITS FALSE NEIGHBOUR: 'it returns false'. Refute it at one input. -/
def keysBytesWrong : ChangeSpec := { name := "keysBytes", fn := fun _ => fun
  | [d1, d2] => { results := [.lit (.bool false)], args := [d1, d2] }
  | _ => none }
def KeysBytesWrongFalsely : Prop := keysBytesRow.holds Tryd.pinned (OpenSpec.ofChange keysBytesWrong)

/- THE SECOND FORM. 'bulk': how many values and letters a reading holds, each counted each time it is reached (what is shared counts as often as it is met; a slice's spare places count too). A statement '..UptoSaid' is the law's where the arguments, and the package variables that the reading takes, are together of bulk at most 1048576: NARROWER than '..Said'. Prove '..Said' where nothing that the law and all that it calls make is longer than what came in: it says more and counts as full. Else prove '..UptoSaid'. A law counts once. -/
mutual
def uptoBulk {H : Type} : DataW H → Nat
  | .lit (.string bytes) => bytes.length + 1
  | .lit _ => 1
  | .nil => 1
  | .ptr d => uptoBulk d + 1
  | .slice elems spare => uptoBulkAll elems + uptoBulkAll spare + 1
  | .agg parts => uptoBulkAll parts + 1
  | .iface _ d => uptoBulk d + 1
  | .map entries => uptoBulkEntries entries + 1
  | .held _ => 1
def uptoBulkAll {H : Type} : List (DataW H) → Nat
  | [] => 0
  | d :: r => uptoBulk d + uptoBulkAll r
def uptoBulkEntries {H : Type} : List (Lit × DataW H) → Nat
  | [] => 0
  | x :: r => uptoBulkEntry x + uptoBulkEntries r
def uptoBulkEntry {H : Type} : Lit × DataW H → Nat
  | (.string bytes, d) => bytes.length + uptoBulk d + 1
  | (_, d) => uptoBulk d + 1
 end
def uptoSmall : (H : Type) → List (DataW H) → Bool := fun _ ds => decide (uptoBulkAll ds ≤ 1048576)
def OpenSpec.upto (s : _root_.Go.ChangeSpec) : _root_.Go.OpenSpec := { _root_.Go.OpenSpec.ofChange s with cond := some uptoSmall }

/-- 'hibernaclelaw38.KeysMake', WHERE WHAT IT READS IS OF BULK AT MOST 1048576: true; the input reads as it did. -/
def keysMakeUptoRow : OpenClaim := { program := "ytconhhhggckcbaadoor", sum := "d7c418857289c3330ee877f08e0a8cbf9dcd4bb777a1048aa633bbd1d7709d7d", func := "hibernacle/hibernaclelaw38.KeysMake", spec := "keysMake", inPlace := ["internal/abi.NoEscape", "internal/bytealg.MakeNoZero"], unfollowed := true, recurses := true, named := ["hibernacle/hash.eight", "hibernacle/hash.rows"], apart := false, laid := [("hibernacle/hash.eight", laid_hibernacle_hash_eight), ("hibernacle/hash.rows", laid_hibernacle_hash_rows)], narrowed := true }
def KeysMakeUptoSaid : Prop := keysMakeUptoRow.holds Tryd.pinned (OpenSpec.upto keysMakeSpec)

/-- 'hibernaclelaw38.KeysRotate', WHERE WHAT IT READS IS OF BULK AT MOST 1048576: true; the input reads as it did. -/
def keysRotateUptoRow : OpenClaim := { program := "ytconhhhggckcbaadoor", sum := "d7c418857289c3330ee877f08e0a8cbf9dcd4bb777a1048aa633bbd1d7709d7d", func := "hibernacle/hibernaclelaw38.KeysRotate", spec := "keysRotate", inPlace := ["internal/abi.NoEscape", "internal/bytealg.MakeNoZero"], unfollowed := true, recurses := true, named := ["hibernacle/hash.eight", "hibernacle/hash.rows"], apart := false, laid := [("hibernacle/hash.eight", laid_hibernacle_hash_eight), ("hibernacle/hash.rows", laid_hibernacle_hash_rows)], narrowed := true }
def KeysRotateUptoSaid : Prop := keysRotateUptoRow.holds Tryd.pinned (OpenSpec.upto keysRotateSpec)

/-- 'hibernaclelaw38.KeysOpen', WHERE WHAT IT READS IS OF BULK AT MOST 1048576: true; the input reads as it did. -/
def keysOpenUptoRow : OpenClaim := { program := "ytconhhhggckcbaadoor", sum := "d7c418857289c3330ee877f08e0a8cbf9dcd4bb777a1048aa633bbd1d7709d7d", func := "hibernacle/hibernaclelaw38.KeysOpen", spec := "keysOpen", inPlace := ["internal/abi.NoEscape", "internal/bytealg.MakeNoZero"], unfollowed := true, recurses := true, named := ["hibernacle/hash.eight", "hibernacle/hash.rows"], apart := false, laid := [("hibernacle/hash.eight", laid_hibernacle_hash_eight), ("hibernacle/hash.rows", laid_hibernacle_hash_rows)], narrowed := true }
def KeysOpenUptoSaid : Prop := keysOpenUptoRow.holds Tryd.pinned (OpenSpec.upto keysOpenSpec)

/-- 'hibernaclelaw38.KeysThree', WHERE WHAT IT READS IS OF BULK AT MOST 1048576: true; the input reads as it did. -/
def keysThreeUptoRow : OpenClaim := { program := "ytconhhhggckcbaadoor", sum := "d7c418857289c3330ee877f08e0a8cbf9dcd4bb777a1048aa633bbd1d7709d7d", func := "hibernacle/hibernaclelaw38.KeysThree", spec := "keysThree", inPlace := ["internal/abi.NoEscape", "internal/bytealg.MakeNoZero"], unfollowed := true, recurses := true, named := ["hibernacle/hash.eight", "hibernacle/hash.rows"], apart := false, laid := [("hibernacle/hash.eight", laid_hibernacle_hash_eight), ("hibernacle/hash.rows", laid_hibernacle_hash_rows)], narrowed := true }
def KeysThreeUptoSaid : Prop := keysThreeUptoRow.holds Tryd.pinned (OpenSpec.upto keysThreeSpec)

/-- 'hibernaclelaw38.KeysBlind', WHERE WHAT IT READS IS OF BULK AT MOST 1048576: true; the input reads as it did. -/
def keysBlindUptoRow : OpenClaim := { program := "ytconhhhggckcbaadoor", sum := "d7c418857289c3330ee877f08e0a8cbf9dcd4bb777a1048aa633bbd1d7709d7d", func := "hibernacle/hibernaclelaw38.KeysBlind", spec := "keysBlind", inPlace := ["internal/abi.NoEscape", "internal/bytealg.MakeNoZero"], unfollowed := true, recurses := true, named := ["hibernacle/hash.eight", "hibernacle/hash.rows"], apart := false, laid := [("hibernacle/hash.eight", laid_hibernacle_hash_eight), ("hibernacle/hash.rows", laid_hibernacle_hash_rows)], narrowed := true }
def KeysBlindUptoSaid : Prop := keysBlindUptoRow.holds Tryd.pinned (OpenSpec.upto keysBlindSpec)

/-- 'hibernaclelaw38.KeysFront', WHERE WHAT IT READS IS OF BULK AT MOST 1048576: true; the input reads as it did. -/
def keysFrontUptoRow : OpenClaim := { program := "ytconhhhggckcbaadoor", sum := "d7c418857289c3330ee877f08e0a8cbf9dcd4bb777a1048aa633bbd1d7709d7d", func := "hibernacle/hibernaclelaw38.KeysFront", spec := "keysFront", inPlace := ["internal/abi.NoEscape", "internal/bytealg.MakeNoZero"], unfollowed := true, recurses := true, named := ["hibernacle/hash.eight", "hibernacle/hash.rows"], apart := false, laid := [("hibernacle/hash.eight", laid_hibernacle_hash_eight), ("hibernacle/hash.rows", laid_hibernacle_hash_rows)], narrowed := true }
def KeysFrontUptoSaid : Prop := keysFrontUptoRow.holds Tryd.pinned (OpenSpec.upto keysFrontSpec)

/-- 'hibernaclelaw38.KeysTold', WHERE WHAT IT READS IS OF BULK AT MOST 1048576: true; the input reads as it did. -/
def keysToldUptoRow : OpenClaim := { program := "ytconhhhggckcbaadoor", sum := "d7c418857289c3330ee877f08e0a8cbf9dcd4bb777a1048aa633bbd1d7709d7d", func := "hibernacle/hibernaclelaw38.KeysTold", spec := "keysTold", inPlace := ["internal/abi.NoEscape", "internal/bytealg.MakeNoZero"], unfollowed := true, recurses := true, named := ["hibernacle/hash.eight", "hibernacle/hash.rows"], apart := false, laid := [("hibernacle/hash.eight", laid_hibernacle_hash_eight), ("hibernacle/hash.rows", laid_hibernacle_hash_rows)], narrowed := true }
def KeysToldUptoSaid : Prop := keysToldUptoRow.holds Tryd.pinned (OpenSpec.upto keysToldSpec)

/-- 'hibernaclelaw38.KeysStay', WHERE WHAT IT READS IS OF BULK AT MOST 1048576: true; the input reads as it did. -/
def keysStayUptoRow : OpenClaim := { program := "ytconhhhggckcbaadoor", sum := "d7c418857289c3330ee877f08e0a8cbf9dcd4bb777a1048aa633bbd1d7709d7d", func := "hibernacle/hibernaclelaw38.KeysStay", spec := "keysStay", inPlace := ["internal/abi.NoEscape", "internal/bytealg.MakeNoZero"], unfollowed := true, recurses := true, named := ["hibernacle/hash.eight", "hibernacle/hash.rows"], apart := false, laid := [("hibernacle/hash.eight", laid_hibernacle_hash_eight), ("hibernacle/hash.rows", laid_hibernacle_hash_rows)], narrowed := true }
def KeysStayUptoSaid : Prop := keysStayUptoRow.holds Tryd.pinned (OpenSpec.upto keysStaySpec)

/-- 'hibernaclelaw38.KeysBytes', WHERE WHAT IT READS IS OF BULK AT MOST 1048576: true; the input reads as it did. -/
def keysBytesUptoRow : OpenClaim := { program := "ytconhhhggckcbaadoor", sum := "d7c418857289c3330ee877f08e0a8cbf9dcd4bb777a1048aa633bbd1d7709d7d", func := "hibernacle/hibernaclelaw38.KeysBytes", spec := "keysBytes", inPlace := ["internal/abi.NoEscape", "internal/bytealg.MakeNoZero"], unfollowed := true, recurses := true, named := ["hibernacle/hash.eight", "hibernacle/hash.rows"], apart := false, laid := [("hibernacle/hash.eight", laid_hibernacle_hash_eight), ("hibernacle/hash.rows", laid_hibernacle_hash_rows)], narrowed := true }
def KeysBytesUptoSaid : Prop := keysBytesUptoRow.holds Tryd.pinned (OpenSpec.upto keysBytesSpec)

end Rows
end Go.Proofs.YtconhhhggckcbaaDoor
