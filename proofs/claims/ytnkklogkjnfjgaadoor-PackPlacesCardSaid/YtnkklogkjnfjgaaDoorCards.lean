/-
  DERIVED. GIVEN WITH THE SEED: THE CARDS: each row of YtnkklogkjnfjgaaDoorRows.lean that lists a variable, with what it lists TIED to the program's text (the seventh form; the later family's looks); each row that meets fmt, with fmt's text TOLD by the authors' own Lean function (tested against real Go, not proved from fmt's source: count such statements apart). THE CARD IS WHAT COUNTS. Prove the row's statement (the work); the ties are given (YtnkklogkjnfjgaaDoorTie.lean); close each card by the builder's one call (the guide's Derived/Test/ToyasCard.lean, 'card_holds'). Laid BY PROGRAM, IN A SANDBOX (cutbox-door.mjs). By AI agents, Wed Nov 11 2026. No macro, syntax, notation, axiom, sorry.
-/
import Derived.Test.YtnkklogkjnfjgaaDoorRows
import GoSem.ClaimSeven
namespace Go.Proofs.YtnkklogkjnfjgaaDoor
namespace Rows

/-- THE TIED CARD OF 'hibernaclelaw04.SealBoxes'. -/
def sealBoxesCard : Claim7 := { stood := { row := sealBoxesRow, standIns := [], harness := (true, "f3024bcbd14d36f0c4e9b05f41c6a1c13b162ac50bb1b069fb4090ba231edafd"), looks := false }, kinds := [], alts := [], laidByText := true, laidKinds := [.data, .data], laidTests := true, laidLooks := .later }
def SealBoxesCardSaid : Prop := Claim7.holds Tryd.pinned (.plain (OpenSpec.ofChange sealBoxesSpec)) sealBoxesCard

/-- THE TIED CARD OF 'hibernaclelaw04.SealOpens'. -/
def sealOpensCard : Claim7 := { stood := { row := sealOpensRow, standIns := [], harness := (true, "f3024bcbd14d36f0c4e9b05f41c6a1c13b162ac50bb1b069fb4090ba231edafd"), looks := false }, kinds := [], alts := [], laidByText := true, laidKinds := [.data, .data], laidTests := true, laidLooks := .later }
def SealOpensCardSaid : Prop := Claim7.holds Tryd.pinned (.plain (OpenSpec.ofChange sealOpensSpec)) sealOpensCard

/-- THE TIED CARD OF 'hibernaclelaw04.SealBent'. -/
def sealBentCard : Claim7 := { stood := { row := sealBentRow, standIns := [], harness := (true, "f3024bcbd14d36f0c4e9b05f41c6a1c13b162ac50bb1b069fb4090ba231edafd"), looks := false }, kinds := [], alts := [], laidByText := true, laidKinds := [.data, .data], laidTests := true, laidLooks := .later }
def SealBentCardSaid : Prop := Claim7.holds Tryd.pinned (.plain (OpenSpec.ofChange sealBentSpec)) sealBentCard

/-- THE TIED CARD OF 'hibernaclelaw04.SealKeys'. -/
def sealKeysCard : Claim7 := { stood := { row := sealKeysRow, standIns := [], harness := (true, "f3024bcbd14d36f0c4e9b05f41c6a1c13b162ac50bb1b069fb4090ba231edafd"), looks := false }, kinds := [], alts := [], laidByText := true, laidKinds := [.data, .data], laidTests := true, laidLooks := .later }
def SealKeysCardSaid : Prop := Claim7.holds Tryd.pinned (.plain (OpenSpec.ofChange sealKeysSpec)) sealKeysCard

/-- THE TIED CARD OF 'hibernaclelaw04.SealNonces'. -/
def sealNoncesCard : Claim7 := { stood := { row := sealNoncesRow, standIns := [], harness := (true, "f3024bcbd14d36f0c4e9b05f41c6a1c13b162ac50bb1b069fb4090ba231edafd"), looks := false }, kinds := [], alts := [], laidByText := true, laidKinds := [.data, .data], laidTests := true, laidLooks := .later }
def SealNoncesCardSaid : Prop := Claim7.holds Tryd.pinned (.plain (OpenSpec.ofChange sealNoncesSpec)) sealNoncesCard

/-- THE TIED CARD OF 'hibernaclelaw04.SealTags'. -/
def sealTagsCard : Claim7 := { stood := { row := sealTagsRow, standIns := [], harness := (true, "f3024bcbd14d36f0c4e9b05f41c6a1c13b162ac50bb1b069fb4090ba231edafd"), looks := false }, kinds := [], alts := [], laidByText := true, laidKinds := [.data, .data], laidTests := true, laidLooks := .later }
def SealTagsCardSaid : Prop := Claim7.holds Tryd.pinned (.plain (OpenSpec.ofChange sealTagsSpec)) sealTagsCard

/-- THE TIED CARD OF 'hibernaclelaw04.SealStreams'. -/
def sealStreamsCard : Claim7 := { stood := { row := sealStreamsRow, standIns := [], harness := (true, "f3024bcbd14d36f0c4e9b05f41c6a1c13b162ac50bb1b069fb4090ba231edafd"), looks := false }, kinds := [], alts := [], laidByText := true, laidKinds := [.data, .data], laidTests := true, laidLooks := .later }
def SealStreamsCardSaid : Prop := Claim7.holds Tryd.pinned (.plain (OpenSpec.ofChange sealStreamsSpec)) sealStreamsCard

/-- THE TIED CARD OF 'hibernaclelaw40.PackMakes'. -/
def packMakesCard : Claim7 := { stood := { row := packMakesRow, standIns := [], harness := (true, "f3024bcbd14d36f0c4e9b05f41c6a1c13b162ac50bb1b069fb4090ba231edafd"), looks := false }, kinds := [], alts := [], laidByText := true, laidKinds := [.data, .data], laidTests := true, laidLooks := .later }
def PackMakesCardSaid : Prop := Claim7.holds Tryd.pinned (.plain (OpenSpec.ofChange packMakesSpec)) packMakesCard

/-- THE TIED CARD OF 'hibernaclelaw40.PackPlaces'. -/
def packPlacesCard : Claim7 := { stood := { row := packPlacesRow, standIns := [], harness := (true, "f3024bcbd14d36f0c4e9b05f41c6a1c13b162ac50bb1b069fb4090ba231edafd"), looks := false }, kinds := [], alts := [], laidByText := true, laidKinds := [.data, .data], laidTests := true, laidLooks := .later }
def PackPlacesCardSaid : Prop := Claim7.holds Tryd.pinned (.plain (OpenSpec.ofChange packPlacesSpec)) packPlacesCard

/-- THE SECOND FORM's CARD OF 'hibernaclelaw04.SealBoxes'. -/
def sealBoxesUptoCard : Claim7 := { stood := { row := sealBoxesUptoRow, standIns := [], harness := (true, "f3024bcbd14d36f0c4e9b05f41c6a1c13b162ac50bb1b069fb4090ba231edafd"), looks := false }, kinds := [], alts := [], laidByText := true, laidKinds := [.data, .data], laidTests := true, laidLooks := .later }
def SealBoxesUptoCardSaid : Prop := Claim7.holds Tryd.pinned (.plain (OpenSpec.upto sealBoxesSpec)) sealBoxesUptoCard

/-- THE SECOND FORM's CARD OF 'hibernaclelaw04.SealOpens'. -/
def sealOpensUptoCard : Claim7 := { stood := { row := sealOpensUptoRow, standIns := [], harness := (true, "f3024bcbd14d36f0c4e9b05f41c6a1c13b162ac50bb1b069fb4090ba231edafd"), looks := false }, kinds := [], alts := [], laidByText := true, laidKinds := [.data, .data], laidTests := true, laidLooks := .later }
def SealOpensUptoCardSaid : Prop := Claim7.holds Tryd.pinned (.plain (OpenSpec.upto sealOpensSpec)) sealOpensUptoCard

/-- THE SECOND FORM's CARD OF 'hibernaclelaw04.SealBent'. -/
def sealBentUptoCard : Claim7 := { stood := { row := sealBentUptoRow, standIns := [], harness := (true, "f3024bcbd14d36f0c4e9b05f41c6a1c13b162ac50bb1b069fb4090ba231edafd"), looks := false }, kinds := [], alts := [], laidByText := true, laidKinds := [.data, .data], laidTests := true, laidLooks := .later }
def SealBentUptoCardSaid : Prop := Claim7.holds Tryd.pinned (.plain (OpenSpec.upto sealBentSpec)) sealBentUptoCard

/-- THE SECOND FORM's CARD OF 'hibernaclelaw04.SealKeys'. -/
def sealKeysUptoCard : Claim7 := { stood := { row := sealKeysUptoRow, standIns := [], harness := (true, "f3024bcbd14d36f0c4e9b05f41c6a1c13b162ac50bb1b069fb4090ba231edafd"), looks := false }, kinds := [], alts := [], laidByText := true, laidKinds := [.data, .data], laidTests := true, laidLooks := .later }
def SealKeysUptoCardSaid : Prop := Claim7.holds Tryd.pinned (.plain (OpenSpec.upto sealKeysSpec)) sealKeysUptoCard

/-- THE SECOND FORM's CARD OF 'hibernaclelaw04.SealNonces'. -/
def sealNoncesUptoCard : Claim7 := { stood := { row := sealNoncesUptoRow, standIns := [], harness := (true, "f3024bcbd14d36f0c4e9b05f41c6a1c13b162ac50bb1b069fb4090ba231edafd"), looks := false }, kinds := [], alts := [], laidByText := true, laidKinds := [.data, .data], laidTests := true, laidLooks := .later }
def SealNoncesUptoCardSaid : Prop := Claim7.holds Tryd.pinned (.plain (OpenSpec.upto sealNoncesSpec)) sealNoncesUptoCard

/-- THE SECOND FORM's CARD OF 'hibernaclelaw04.SealTags'. -/
def sealTagsUptoCard : Claim7 := { stood := { row := sealTagsUptoRow, standIns := [], harness := (true, "f3024bcbd14d36f0c4e9b05f41c6a1c13b162ac50bb1b069fb4090ba231edafd"), looks := false }, kinds := [], alts := [], laidByText := true, laidKinds := [.data, .data], laidTests := true, laidLooks := .later }
def SealTagsUptoCardSaid : Prop := Claim7.holds Tryd.pinned (.plain (OpenSpec.upto sealTagsSpec)) sealTagsUptoCard

/-- THE SECOND FORM's CARD OF 'hibernaclelaw04.SealStreams'. -/
def sealStreamsUptoCard : Claim7 := { stood := { row := sealStreamsUptoRow, standIns := [], harness := (true, "f3024bcbd14d36f0c4e9b05f41c6a1c13b162ac50bb1b069fb4090ba231edafd"), looks := false }, kinds := [], alts := [], laidByText := true, laidKinds := [.data, .data], laidTests := true, laidLooks := .later }
def SealStreamsUptoCardSaid : Prop := Claim7.holds Tryd.pinned (.plain (OpenSpec.upto sealStreamsSpec)) sealStreamsUptoCard

/-- THE SECOND FORM's CARD OF 'hibernaclelaw40.PackMakes'. -/
def packMakesUptoCard : Claim7 := { stood := { row := packMakesUptoRow, standIns := [], harness := (true, "f3024bcbd14d36f0c4e9b05f41c6a1c13b162ac50bb1b069fb4090ba231edafd"), looks := false }, kinds := [], alts := [], laidByText := true, laidKinds := [.data, .data], laidTests := true, laidLooks := .later }
def PackMakesUptoCardSaid : Prop := Claim7.holds Tryd.pinned (.plain (OpenSpec.upto packMakesSpec)) packMakesUptoCard

/-- THE SECOND FORM's CARD OF 'hibernaclelaw40.PackPlaces'. -/
def packPlacesUptoCard : Claim7 := { stood := { row := packPlacesUptoRow, standIns := [], harness := (true, "f3024bcbd14d36f0c4e9b05f41c6a1c13b162ac50bb1b069fb4090ba231edafd"), looks := false }, kinds := [], alts := [], laidByText := true, laidKinds := [.data, .data], laidTests := true, laidLooks := .later }
def PackPlacesUptoCardSaid : Prop := Claim7.holds Tryd.pinned (.plain (OpenSpec.upto packPlacesSpec)) packPlacesUptoCard
end Rows
end Go.Proofs.YtnkklogkjnfjgaaDoor
