/-
  DERIVED. GIVEN WITH THE SEED: THE CARDS: each row of YtdjholkjkbihmaaGreatDoorRows.lean that lists a variable, with what it lists TIED to the program's text (the seventh form; the later family's looks); each row that meets fmt, with fmt's text TOLD by the authors' own Lean function (tested against real Go, not proved from fmt's source: count such statements apart). THE CARD IS WHAT COUNTS. Prove the row's statement (the work); the ties are given (YtdjholkjkbihmaaGreatDoorTie.lean); close each card by the builder's one call (the guide's Derived/Test/ToyasCard.lean, 'card_holds'). Laid BY PROGRAM, IN A SANDBOX (cutbox-door.mjs). By AI agents, Wed Nov 11 2026. No macro, syntax, notation, axiom, sorry.
-/
import Derived.Test.YtdjholkjkbihmaaGreatDoorRows
import GoSem.ClaimSeven
namespace Go.Proofs.YtdjholkjkbihmaaGreatDoor
namespace Rows

/-- THE TIED CARD OF 'hibernacletop.TopNeverOther'. -/
def topNeverOtherCard : Claim7 := { stood := { row := topNeverOtherRow, standIns := [], harness := (true, "1e64c787fb5d15ea1de6b268c3877c1f2b183c8afc4feddb0bdaf0325ba4113d"), looks := true }, kinds := [], alts := [], laidByText := true, laidKinds := [.data, .data, .data, .data, .data, .sentinel, .sentinel], laidTests := true, laidLooks := .later }
def TopNeverOtherCardSaid : Prop := Claim7.holds Tryz.pinned (.plain (OpenSpec.ofChange topNeverOtherSpec)) topNeverOtherCard

/-- THE SECOND FORM's CARD OF 'hibernacletop.TopNeverOther'. -/
def topNeverOtherUptoCard : Claim7 := { stood := { row := topNeverOtherUptoRow, standIns := [], harness := (true, "1e64c787fb5d15ea1de6b268c3877c1f2b183c8afc4feddb0bdaf0325ba4113d"), looks := true }, kinds := [], alts := [], laidByText := true, laidKinds := [.data, .data, .data, .data, .data, .sentinel, .sentinel], laidTests := true, laidLooks := .later }
def TopNeverOtherUptoCardSaid : Prop := Claim7.holds Tryz.pinned (.plain (OpenSpec.upto topNeverOtherSpec)) topNeverOtherUptoCard
end Rows
end Go.Proofs.YtdjholkjkbihmaaGreatDoor
