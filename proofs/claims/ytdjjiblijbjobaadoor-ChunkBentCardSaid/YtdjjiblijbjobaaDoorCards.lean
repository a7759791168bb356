/-
  DERIVED. GIVEN WITH THE SEED: THE CARDS: each row of YtdjjiblijbjobaaDoorRows.lean that lists a variable, with what it lists TIED to the program's text (the seventh form; the later family's looks); each row that meets fmt, with fmt's text TOLD by the authors' own Lean function (tested against real Go, not proved from fmt's source: count such statements apart). THE CARD IS WHAT COUNTS. Prove the row's statement (the work); the ties are given (YtdjjiblijbjobaaDoorTie.lean); close each card by the builder's one call (the guide's Derived/Test/ToyasCard.lean, 'card_holds'). Laid BY PROGRAM, IN A SANDBOX (cutbox-door.mjs). By AI agents, Wed Nov 11 2026. No macro, syntax, notation, axiom, sorry.
-/
import Derived.Test.YtdjjiblijbjobaaDoorRows
import GoSem.ClaimSeven
namespace Go.Proofs.YtdjjiblijbjobaaDoor
namespace Rows

/-- THE TIED CARD OF 'hibernaclelaw39.ChunkWhole'. -/
def chunkWholeCard : Claim7 := { stood := { row := chunkWholeRow, standIns := [], harness := (true, "fcc0517a7c98c6240e8da5ea992e5a32a27e8244778d4e8433aaab055dcec5ce"), looks := false }, kinds := [], alts := [], laidByText := true, laidKinds := [.data, .data], laidTests := true, laidLooks := .later }
def ChunkWholeCardSaid : Prop := Claim7.holds Tryd.pinned (.plain (OpenSpec.ofChange chunkWholeSpec)) chunkWholeCard

/-- THE TIED CARD OF 'hibernaclelaw39.ChunkTails'. -/
def chunkTailsCard : Claim7 := { stood := { row := chunkTailsRow, standIns := [], harness := (true, "fcc0517a7c98c6240e8da5ea992e5a32a27e8244778d4e8433aaab055dcec5ce"), looks := false }, kinds := [], alts := [], laidByText := true, laidKinds := [.data, .data], laidTests := true, laidLooks := .later }
def ChunkTailsCardSaid : Prop := Claim7.holds Tryd.pinned (.plain (OpenSpec.ofChange chunkTailsSpec)) chunkTailsCard

/-- THE TIED CARD OF 'hibernaclelaw39.ChunkCuts'. -/
def chunkCutsCard : Claim7 := { stood := { row := chunkCutsRow, standIns := [], harness := (true, "fcc0517a7c98c6240e8da5ea992e5a32a27e8244778d4e8433aaab055dcec5ce"), looks := false }, kinds := [], alts := [], laidByText := true, laidKinds := [.data, .data], laidTests := true, laidLooks := .later }
def ChunkCutsCardSaid : Prop := Claim7.holds Tryd.pinned (.plain (OpenSpec.ofChange chunkCutsSpec)) chunkCutsCard

/-- THE TIED CARD OF 'hibernaclelaw39.ChunkSeals'. -/
def chunkSealsCard : Claim7 := { stood := { row := chunkSealsRow, standIns := [], harness := (true, "fcc0517a7c98c6240e8da5ea992e5a32a27e8244778d4e8433aaab055dcec5ce"), looks := false }, kinds := [], alts := [], laidByText := true, laidKinds := [.data, .data], laidTests := true, laidLooks := .later }
def ChunkSealsCardSaid : Prop := Claim7.holds Tryd.pinned (.plain (OpenSpec.ofChange chunkSealsSpec)) chunkSealsCard

/-- THE TIED CARD OF 'hibernaclelaw39.ChunkOpens'. -/
def chunkOpensCard : Claim7 := { stood := { row := chunkOpensRow, standIns := [], harness := (true, "fcc0517a7c98c6240e8da5ea992e5a32a27e8244778d4e8433aaab055dcec5ce"), looks := false }, kinds := [], alts := [], laidByText := true, laidKinds := [.data, .data], laidTests := true, laidLooks := .later }
def ChunkOpensCardSaid : Prop := Claim7.holds Tryd.pinned (.plain (OpenSpec.ofChange chunkOpensSpec)) chunkOpensCard

/-- THE TIED CARD OF 'hibernaclelaw39.ChunkEpochs'. -/
def chunkEpochsCard : Claim7 := { stood := { row := chunkEpochsRow, standIns := [], harness := (true, "fcc0517a7c98c6240e8da5ea992e5a32a27e8244778d4e8433aaab055dcec5ce"), looks := false }, kinds := [], alts := [], laidByText := true, laidKinds := [.data, .data], laidTests := true, laidLooks := .later }
def ChunkEpochsCardSaid : Prop := Claim7.holds Tryd.pinned (.plain (OpenSpec.ofChange chunkEpochsSpec)) chunkEpochsCard

/-- THE TIED CARD OF 'hibernaclelaw39.ChunkBent'. -/
def chunkBentCard : Claim7 := { stood := { row := chunkBentRow, standIns := [], harness := (true, "fcc0517a7c98c6240e8da5ea992e5a32a27e8244778d4e8433aaab055dcec5ce"), looks := false }, kinds := [], alts := [], laidByText := true, laidKinds := [.data, .data], laidTests := true, laidLooks := .later }
def ChunkBentCardSaid : Prop := Claim7.holds Tryd.pinned (.plain (OpenSpec.ofChange chunkBentSpec)) chunkBentCard

/-- THE TIED CARD OF 'hibernaclelaw40.PackChunks'. -/
def packChunksCard : Claim7 := { stood := { row := packChunksRow, standIns := [], harness := (true, "fcc0517a7c98c6240e8da5ea992e5a32a27e8244778d4e8433aaab055dcec5ce"), looks := false }, kinds := [], alts := [], laidByText := true, laidKinds := [.data, .data], laidTests := true, laidLooks := .later }
def PackChunksCardSaid : Prop := Claim7.holds Tryd.pinned (.plain (OpenSpec.ofChange packChunksSpec)) packChunksCard

/-- THE SECOND FORM's CARD OF 'hibernaclelaw39.ChunkWhole'. -/
def chunkWholeUptoCard : Claim7 := { stood := { row := chunkWholeUptoRow, standIns := [], harness := (true, "fcc0517a7c98c6240e8da5ea992e5a32a27e8244778d4e8433aaab055dcec5ce"), looks := false }, kinds := [], alts := [], laidByText := true, laidKinds := [.data, .data], laidTests := true, laidLooks := .later }
def ChunkWholeUptoCardSaid : Prop := Claim7.holds Tryd.pinned (.plain (OpenSpec.upto chunkWholeSpec)) chunkWholeUptoCard

/-- THE SECOND FORM's CARD OF 'hibernaclelaw39.ChunkTails'. -/
def chunkTailsUptoCard : Claim7 := { stood := { row := chunkTailsUptoRow, standIns := [], harness := (true, "fcc0517a7c98c6240e8da5ea992e5a32a27e8244778d4e8433aaab055dcec5ce"), looks := false }, kinds := [], alts := [], laidByText := true, laidKinds := [.data, .data], laidTests := true, laidLooks := .later }
def ChunkTailsUptoCardSaid : Prop := Claim7.holds Tryd.pinned (.plain (OpenSpec.upto chunkTailsSpec)) chunkTailsUptoCard

/-- THE SECOND FORM's CARD OF 'hibernaclelaw39.ChunkCuts'. -/
def chunkCutsUptoCard : Claim7 := { stood := { row := chunkCutsUptoRow, standIns := [], harness := (true, "fcc0517a7c98c6240e8da5ea992e5a32a27e8244778d4e8433aaab055dcec5ce"), looks := false }, kinds := [], alts := [], laidByText := true, laidKinds := [.data, .data], laidTests := true, laidLooks := .later }
def ChunkCutsUptoCardSaid : Prop := Claim7.holds Tryd.pinned (.plain (OpenSpec.upto chunkCutsSpec)) chunkCutsUptoCard

/-- THE SECOND FORM's CARD OF 'hibernaclelaw39.ChunkSeals'. -/
def chunkSealsUptoCard : Claim7 := { stood := { row := chunkSealsUptoRow, standIns := [], harness := (true, "fcc0517a7c98c6240e8da5ea992e5a32a27e8244778d4e8433aaab055dcec5ce"), looks := false }, kinds := [], alts := [], laidByText := true, laidKinds := [.data, .data], laidTests := true, laidLooks := .later }
def ChunkSealsUptoCardSaid : Prop := Claim7.holds Tryd.pinned (.plain (OpenSpec.upto chunkSealsSpec)) chunkSealsUptoCard

/-- THE SECOND FORM's CARD OF 'hibernaclelaw39.ChunkOpens'. -/
def chunkOpensUptoCard : Claim7 := { stood := { row := chunkOpensUptoRow, standIns := [], harness := (true, "fcc0517a7c98c6240e8da5ea992e5a32a27e8244778d4e8433aaab055dcec5ce"), looks := false }, kinds := [], alts := [], laidByText := true, laidKinds := [.data, .data], laidTests := true, laidLooks := .later }
def ChunkOpensUptoCardSaid : Prop := Claim7.holds Tryd.pinned (.plain (OpenSpec.upto chunkOpensSpec)) chunkOpensUptoCard

/-- THE SECOND FORM's CARD OF 'hibernaclelaw39.ChunkEpochs'. -/
def chunkEpochsUptoCard : Claim7 := { stood := { row := chunkEpochsUptoRow, standIns := [], harness := (true, "fcc0517a7c98c6240e8da5ea992e5a32a27e8244778d4e8433aaab055dcec5ce"), looks := false }, kinds := [], alts := [], laidByText := true, laidKinds := [.data, .data], laidTests := true, laidLooks := .later }
def ChunkEpochsUptoCardSaid : Prop := Claim7.holds Tryd.pinned (.plain (OpenSpec.upto chunkEpochsSpec)) chunkEpochsUptoCard

/-- THE SECOND FORM's CARD OF 'hibernaclelaw39.ChunkBent'. -/
def chunkBentUptoCard : Claim7 := { stood := { row := chunkBentUptoRow, standIns := [], harness := (true, "fcc0517a7c98c6240e8da5ea992e5a32a27e8244778d4e8433aaab055dcec5ce"), looks := false }, kinds := [], alts := [], laidByText := true, laidKinds := [.data, .data], laidTests := true, laidLooks := .later }
def ChunkBentUptoCardSaid : Prop := Claim7.holds Tryd.pinned (.plain (OpenSpec.upto chunkBentSpec)) chunkBentUptoCard

/-- THE SECOND FORM's CARD OF 'hibernaclelaw40.PackChunks'. -/
def packChunksUptoCard : Claim7 := { stood := { row := packChunksUptoRow, standIns := [], harness := (true, "fcc0517a7c98c6240e8da5ea992e5a32a27e8244778d4e8433aaab055dcec5ce"), looks := false }, kinds := [], alts := [], laidByText := true, laidKinds := [.data, .data], laidTests := true, laidLooks := .later }
def PackChunksUptoCardSaid : Prop := Claim7.holds Tryd.pinned (.plain (OpenSpec.upto packChunksSpec)) packChunksUptoCard
end Rows
end Go.Proofs.YtdjjiblijbjobaaDoor
