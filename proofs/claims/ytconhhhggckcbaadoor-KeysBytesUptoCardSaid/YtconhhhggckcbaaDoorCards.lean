/-
  DERIVED. GIVEN WITH THE SEED: THE CARDS: each row of YtconhhhggckcbaaDoorRows.lean that lists a variable, with what it lists TIED to the program's text (the seventh form; the later family's looks); each row that meets fmt, with fmt's text TOLD by the authors' own Lean function (tested against real Go, not proved from fmt's source: count such statements apart). THE CARD IS WHAT COUNTS. Prove the row's statement (the work); the ties are given (YtconhhhggckcbaaDoorTie.lean); close each card by the builder's one call (the guide's Derived/Test/ToyasCard.lean, 'card_holds'). Laid BY PROGRAM, IN A SANDBOX (cutbox-door.mjs). By AI agents, Wed Nov 11 2026. No macro, syntax, notation, axiom, sorry.
-/
import Derived.Test.YtconhhhggckcbaaDoorRows
import GoSem.ClaimSeven
namespace Go.Proofs.YtconhhhggckcbaaDoor
namespace Rows

/-- THE TIED CARD OF 'hibernaclelaw38.KeysMake'. -/
def keysMakeCard : Claim7 := { stood := { row := keysMakeRow, standIns := [], harness := (true, "ec8def01f3b59ffbc0dbf6dd1c93291135e5ed4aa53edb30779f13a1c3d1e587"), looks := false }, kinds := [], alts := [], laidByText := true, laidKinds := [.data, .data], laidTests := true, laidLooks := .later }
def KeysMakeCardSaid : Prop := Claim7.holds Tryd.pinned (.plain (OpenSpec.ofChange keysMakeSpec)) keysMakeCard

/-- THE TIED CARD OF 'hibernaclelaw38.KeysRotate'. -/
def keysRotateCard : Claim7 := { stood := { row := keysRotateRow, standIns := [], harness := (true, "ec8def01f3b59ffbc0dbf6dd1c93291135e5ed4aa53edb30779f13a1c3d1e587"), looks := false }, kinds := [], alts := [], laidByText := true, laidKinds := [.data, .data], laidTests := true, laidLooks := .later }
def KeysRotateCardSaid : Prop := Claim7.holds Tryd.pinned (.plain (OpenSpec.ofChange keysRotateSpec)) keysRotateCard

/-- THE TIED CARD OF 'hibernaclelaw38.KeysOpen'. -/
def keysOpenCard : Claim7 := { stood := { row := keysOpenRow, standIns := [], harness := (true, "ec8def01f3b59ffbc0dbf6dd1c93291135e5ed4aa53edb30779f13a1c3d1e587"), looks := false }, kinds := [], alts := [], laidByText := true, laidKinds := [.data, .data], laidTests := true, laidLooks := .later }
def KeysOpenCardSaid : Prop := Claim7.holds Tryd.pinned (.plain (OpenSpec.ofChange keysOpenSpec)) keysOpenCard

/-- THE TIED CARD OF 'hibernaclelaw38.KeysThree'. -/
def keysThreeCard : Claim7 := { stood := { row := keysThreeRow, standIns := [], harness := (true, "ec8def01f3b59ffbc0dbf6dd1c93291135e5ed4aa53edb30779f13a1c3d1e587"), looks := false }, kinds := [], alts := [], laidByText := true, laidKinds := [.data, .data], laidTests := true, laidLooks := .later }
def KeysThreeCardSaid : Prop := Claim7.holds Tryd.pinned (.plain (OpenSpec.ofChange keysThreeSpec)) keysThreeCard

/-- THE TIED CARD OF 'hibernaclelaw38.KeysBlind'. -/
def keysBlindCard : Claim7 := { stood := { row := keysBlindRow, standIns := [], harness := (true, "ec8def01f3b59ffbc0dbf6dd1c93291135e5ed4aa53edb30779f13a1c3d1e587"), looks := false }, kinds := [], alts := [], laidByText := true, laidKinds := [.data, .data], laidTests := true, laidLooks := .later }
def KeysBlindCardSaid : Prop := Claim7.holds Tryd.pinned (.plain (OpenSpec.ofChange keysBlindSpec)) keysBlindCard

/-- THE TIED CARD OF 'hibernaclelaw38.KeysFront'. -/
def keysFrontCard : Claim7 := { stood := { row := keysFrontRow, standIns := [], harness := (true, "ec8def01f3b59ffbc0dbf6dd1c93291135e5ed4aa53edb30779f13a1c3d1e587"), looks := false }, kinds := [], alts := [], laidByText := true, laidKinds := [.data, .data], laidTests := true, laidLooks := .later }
def KeysFrontCardSaid : Prop := Claim7.holds Tryd.pinned (.plain (OpenSpec.ofChange keysFrontSpec)) keysFrontCard

/-- THE TIED CARD OF 'hibernaclelaw38.KeysTold'. -/
def keysToldCard : Claim7 := { stood := { row := keysToldRow, standIns := [], harness := (true, "ec8def01f3b59ffbc0dbf6dd1c93291135e5ed4aa53edb30779f13a1c3d1e587"), looks := false }, kinds := [], alts := [], laidByText := true, laidKinds := [.data, .data], laidTests := true, laidLooks := .later }
def KeysToldCardSaid : Prop := Claim7.holds Tryd.pinned (.plain (OpenSpec.ofChange keysToldSpec)) keysToldCard

/-- THE TIED CARD OF 'hibernaclelaw38.KeysStay'. -/
def keysStayCard : Claim7 := { stood := { row := keysStayRow, standIns := [], harness := (true, "ec8def01f3b59ffbc0dbf6dd1c93291135e5ed4aa53edb30779f13a1c3d1e587"), looks := false }, kinds := [], alts := [], laidByText := true, laidKinds := [.data, .data], laidTests := true, laidLooks := .later }
def KeysStayCardSaid : Prop := Claim7.holds Tryd.pinned (.plain (OpenSpec.ofChange keysStaySpec)) keysStayCard

/-- THE TIED CARD OF 'hibernaclelaw38.KeysBytes'. -/
def keysBytesCard : Claim7 := { stood := { row := keysBytesRow, standIns := [], harness := (true, "ec8def01f3b59ffbc0dbf6dd1c93291135e5ed4aa53edb30779f13a1c3d1e587"), looks := false }, kinds := [], alts := [], laidByText := true, laidKinds := [.data, .data], laidTests := true, laidLooks := .later }
def KeysBytesCardSaid : Prop := Claim7.holds Tryd.pinned (.plain (OpenSpec.ofChange keysBytesSpec)) keysBytesCard

/-- THE SECOND FORM's CARD OF 'hibernaclelaw38.KeysMake'. -/
def keysMakeUptoCard : Claim7 := { stood := { row := keysMakeUptoRow, standIns := [], harness := (true, "ec8def01f3b59ffbc0dbf6dd1c93291135e5ed4aa53edb30779f13a1c3d1e587"), looks := false }, kinds := [], alts := [], laidByText := true, laidKinds := [.data, .data], laidTests := true, laidLooks := .later }
def KeysMakeUptoCardSaid : Prop := Claim7.holds Tryd.pinned (.plain (OpenSpec.upto keysMakeSpec)) keysMakeUptoCard

/-- THE SECOND FORM's CARD OF 'hibernaclelaw38.KeysRotate'. -/
def keysRotateUptoCard : Claim7 := { stood := { row := keysRotateUptoRow, standIns := [], harness := (true, "ec8def01f3b59ffbc0dbf6dd1c93291135e5ed4aa53edb30779f13a1c3d1e587"), looks := false }, kinds := [], alts := [], laidByText := true, laidKinds := [.data, .data], laidTests := true, laidLooks := .later }
def KeysRotateUptoCardSaid : Prop := Claim7.holds Tryd.pinned (.plain (OpenSpec.upto keysRotateSpec)) keysRotateUptoCard

/-- THE SECOND FORM's CARD OF 'hibernaclelaw38.KeysOpen'. -/
def keysOpenUptoCard : Claim7 := { stood := { row := keysOpenUptoRow, standIns := [], harness := (true, "ec8def01f3b59ffbc0dbf6dd1c93291135e5ed4aa53edb30779f13a1c3d1e587"), looks := false }, kinds := [], alts := [], laidByText := true, laidKinds := [.data, .data], laidTests := true, laidLooks := .later }
def KeysOpenUptoCardSaid : Prop := Claim7.holds Tryd.pinned (.plain (OpenSpec.upto keysOpenSpec)) keysOpenUptoCard

/-- THE SECOND FORM's CARD OF 'hibernaclelaw38.KeysThree'. -/
def keysThreeUptoCard : Claim7 := { stood := { row := keysThreeUptoRow, standIns := [], harness := (true, "ec8def01f3b59ffbc0dbf6dd1c93291135e5ed4aa53edb30779f13a1c3d1e587"), looks := false }, kinds := [], alts := [], laidByText := true, laidKinds := [.data, .data], laidTests := true, laidLooks := .later }
def KeysThreeUptoCardSaid : Prop := Claim7.holds Tryd.pinned (.plain (OpenSpec.upto keysThreeSpec)) keysThreeUptoCard

/-- THE SECOND FORM's CARD OF 'hibernaclelaw38.KeysBlind'. -/
def keysBlindUptoCard : Claim7 := { stood := { row := keysBlindUptoRow, standIns := [], harness := (true, "ec8def01f3b59ffbc0dbf6dd1c93291135e5ed4aa53edb30779f13a1c3d1e587"), looks := false }, kinds := [], alts := [], laidByText := true, laidKinds := [.data, .data], laidTests := true, laidLooks := .later }
def KeysBlindUptoCardSaid : Prop := Claim7.holds Tryd.pinned (.plain (OpenSpec.upto keysBlindSpec)) keysBlindUptoCard

/-- THE SECOND FORM's CARD OF 'hibernaclelaw38.KeysFront'. -/
def keysFrontUptoCard : Claim7 := { stood := { row := keysFrontUptoRow, standIns := [], harness := (true, "ec8def01f3b59ffbc0dbf6dd1c93291135e5ed4aa53edb30779f13a1c3d1e587"), looks := false }, kinds := [], alts := [], laidByText := true, laidKinds := [.data, .data], laidTests := true, laidLooks := .later }
def KeysFrontUptoCardSaid : Prop := Claim7.holds Tryd.pinned (.plain (OpenSpec.upto keysFrontSpec)) keysFrontUptoCard

/-- THE SECOND FORM's CARD OF 'hibernaclelaw38.KeysTold'. -/
def keysToldUptoCard : Claim7 := { stood := { row := keysToldUptoRow, standIns := [], harness := (true, "ec8def01f3b59ffbc0dbf6dd1c93291135e5ed4aa53edb30779f13a1c3d1e587"), looks := false }, kinds := [], alts := [], laidByText := true, laidKinds := [.data, .data], laidTests := true, laidLooks := .later }
def KeysToldUptoCardSaid : Prop := Claim7.holds Tryd.pinned (.plain (OpenSpec.upto keysToldSpec)) keysToldUptoCard

/-- THE SECOND FORM's CARD OF 'hibernaclelaw38.KeysStay'. -/
def keysStayUptoCard : Claim7 := { stood := { row := keysStayUptoRow, standIns := [], harness := (true, "ec8def01f3b59ffbc0dbf6dd1c93291135e5ed4aa53edb30779f13a1c3d1e587"), looks := false }, kinds := [], alts := [], laidByText := true, laidKinds := [.data, .data], laidTests := true, laidLooks := .later }
def KeysStayUptoCardSaid : Prop := Claim7.holds Tryd.pinned (.plain (OpenSpec.upto keysStaySpec)) keysStayUptoCard

/-- THE SECOND FORM's CARD OF 'hibernaclelaw38.KeysBytes'. -/
def keysBytesUptoCard : Claim7 := { stood := { row := keysBytesUptoRow, standIns := [], harness := (true, "ec8def01f3b59ffbc0dbf6dd1c93291135e5ed4aa53edb30779f13a1c3d1e587"), looks := false }, kinds := [], alts := [], laidByText := true, laidKinds := [.data, .data], laidTests := true, laidLooks := .later }
def KeysBytesUptoCardSaid : Prop := Claim7.holds Tryd.pinned (.plain (OpenSpec.upto keysBytesSpec)) keysBytesUptoCard
end Rows
end Go.Proofs.YtconhhhggckcbaaDoor
