/-
  DERIVED. GIVEN WITH THE SEED: THE CARDS: each row of YtbpmomedhdmloaaGreatDoorRows.lean that lists a variable, with what it lists TIED to the program's text (the seventh form; the later family's looks); each row that meets fmt, with fmt's text TOLD by the authors' own Lean function (tested against real Go, not proved from fmt's source: count such statements apart). THE CARD IS WHAT COUNTS. Prove the row's statement (the work); the ties are given (YtbpmomedhdmloaaGreatDoorTie.lean); close each card by the builder's one call (the guide's Derived/Test/ToyasCard.lean, 'card_holds'). Laid BY PROGRAM, IN A SANDBOX (cutbox-door.mjs). By AI agents, Wed Nov 11 2026. No macro, syntax, notation, axiom, sorry.
-/
import Derived.Test.YtbpmomedhdmloaaGreatDoorRows
import GoSem.ClaimSeven
namespace Go.Proofs.YtbpmomedhdmloaaGreatDoor
namespace Rows

/-- THE TIED CARD OF 'baizelaw26.BlockTells'. -/
def blockTellsCard : Claim7 := { stood := { row := blockTellsRow, standIns := [], harness := (true, "cac4265d60a7f0a414a5630376a15f2d89c869bccd828c04ab71f9a45b42c129"), looks := false }, kinds := [], alts := [], laidByText := true, laidKinds := [.data, .data, .data], laidTests := true, laidLooks := .later }
def BlockTellsCardSaid : Prop := Claim7.holds Tryz.pinned (.plain (OpenSpec.ofChange blockTellsSpec)) blockTellsCard

/-- THE TIED CARD OF 'baizelaw26.BlockHas'. -/
def blockHasCard : Claim7 := { stood := { row := blockHasRow, standIns := [], harness := (true, "cac4265d60a7f0a414a5630376a15f2d89c869bccd828c04ab71f9a45b42c129"), looks := false }, kinds := [], alts := [], laidByText := true, laidKinds := [.data, .data, .data], laidTests := true, laidLooks := .later }
def BlockHasCardSaid : Prop := Claim7.holds Tryz.pinned (.plain (OpenSpec.ofChange blockHasSpec)) blockHasCard

/-- THE TIED CARD OF 'baizelaw26.BlockBytes'. -/
def blockBytesCard : Claim7 := { stood := { row := blockBytesRow, standIns := [], harness := (true, "cac4265d60a7f0a414a5630376a15f2d89c869bccd828c04ab71f9a45b42c129"), looks := false }, kinds := [], alts := [], laidByText := true, laidKinds := [.data, .data, .data], laidTests := true, laidLooks := .later }
def BlockBytesCardSaid : Prop := Claim7.holds Tryz.pinned (.plain (OpenSpec.ofChange blockBytesSpec)) blockBytesCard

/-- THE SECOND FORM's CARD OF 'baizelaw26.BlockTells'. -/
def blockTellsUptoCard : Claim7 := { stood := { row := blockTellsUptoRow, standIns := [], harness := (true, "cac4265d60a7f0a414a5630376a15f2d89c869bccd828c04ab71f9a45b42c129"), looks := false }, kinds := [], alts := [], laidByText := true, laidKinds := [.data, .data, .data], laidTests := true, laidLooks := .later }
def BlockTellsUptoCardSaid : Prop := Claim7.holds Tryz.pinned (.plain (OpenSpec.upto blockTellsSpec)) blockTellsUptoCard

/-- THE SECOND FORM's CARD OF 'baizelaw26.BlockHas'. -/
def blockHasUptoCard : Claim7 := { stood := { row := blockHasUptoRow, standIns := [], harness := (true, "cac4265d60a7f0a414a5630376a15f2d89c869bccd828c04ab71f9a45b42c129"), looks := false }, kinds := [], alts := [], laidByText := true, laidKinds := [.data, .data, .data], laidTests := true, laidLooks := .later }
def BlockHasUptoCardSaid : Prop := Claim7.holds Tryz.pinned (.plain (OpenSpec.upto blockHasSpec)) blockHasUptoCard

/-- THE SECOND FORM's CARD OF 'baizelaw26.BlockBytes'. -/
def blockBytesUptoCard : Claim7 := { stood := { row := blockBytesUptoRow, standIns := [], harness := (true, "cac4265d60a7f0a414a5630376a15f2d89c869bccd828c04ab71f9a45b42c129"), looks := false }, kinds := [], alts := [], laidByText := true, laidKinds := [.data, .data, .data], laidTests := true, laidLooks := .later }
def BlockBytesUptoCardSaid : Prop := Claim7.holds Tryz.pinned (.plain (OpenSpec.upto blockBytesSpec)) blockBytesUptoCard
end Rows
end Go.Proofs.YtbpmomedhdmloaaGreatDoor
