/-
  DERIVED. GIVEN WITH THE SEED: THE CARDS: each row of YtdbbepdmggjbkaaGreatDoorRows.lean that lists a variable, with what it lists TIED to the program's text (the seventh form; the later family's looks); each row that meets fmt, with fmt's text TOLD by the authors' own Lean function (tested against real Go, not proved from fmt's source: count such statements apart). THE CARD IS WHAT COUNTS. Prove the row's statement (the work); the ties are given (YtdbbepdmggjbkaaGreatDoorTie.lean); close each card by the builder's one call (the guide's Derived/Test/ToyasCard.lean, 'card_holds'). Laid BY PROGRAM, IN A SANDBOX (cutbox-door.mjs). By AI agents, Wed Nov 11 2026. No macro, syntax, notation, axiom, sorry.
-/
import Derived.Test.YtdbbepdmggjbkaaGreatDoorRows
import GoSem.ClaimSeven
namespace Go.Proofs.YtdbbepdmggjbkaaGreatDoor
namespace Rows

/-- THE TIED CARD OF 'stockyardlaw33.ChunkstoreNames'. -/
def chunkstoreNamesCard : Claim7 := { stood := { row := chunkstoreNamesRow, standIns := [], harness := (true, "dad7074c73c576e667ea3caa98947abcc2a421d66926d2f6241b7dc3459e6741"), looks := true }, kinds := [], alts := [], laidByText := true, laidKinds := [.data, .data, .data, .sentinel, .sentinel], laidTests := true, laidLooks := .later }
def ChunkstoreNamesCardSaid : Prop := Claim7.holds Tryz.pinned (.plain (OpenSpec.ofChange chunkstoreNamesSpec)) chunkstoreNamesCard

/-- THE SECOND FORM's CARD OF 'stockyardlaw33.ChunkstoreNames'. -/
def chunkstoreNamesUptoCard : Claim7 := { stood := { row := chunkstoreNamesUptoRow, standIns := [], harness := (true, "dad7074c73c576e667ea3caa98947abcc2a421d66926d2f6241b7dc3459e6741"), looks := true }, kinds := [], alts := [], laidByText := true, laidKinds := [.data, .data, .data, .sentinel, .sentinel], laidTests := true, laidLooks := .later }
def ChunkstoreNamesUptoCardSaid : Prop := Claim7.holds Tryz.pinned (.plain (OpenSpec.upto chunkstoreNamesSpec)) chunkstoreNamesUptoCard
end Rows
end Go.Proofs.YtdbbepdmggjbkaaGreatDoor
