/-
  DERIVED. GIVEN WITH THE SEED: THE CARDS: each row of YtllbdpdnpaocnaaGreatDoorRows.lean that lists a variable, with what it lists TIED to the program's text (the seventh form; the later family's looks); each row that meets fmt, with fmt's text TOLD by the authors' own Lean function (tested against real Go, not proved from fmt's source: count such statements apart). THE CARD IS WHAT COUNTS. Prove the row's statement (the work); the ties are given (YtllbdpdnpaocnaaGreatDoorTie.lean); close each card by the builder's one call (the guide's Derived/Test/ToyasCard.lean, 'card_holds'). Laid BY PROGRAM, IN A SANDBOX (cutbox-door.mjs). By AI agents, Wed Nov 11 2026. No macro, syntax, notation, axiom, sorry.
-/
import Derived.Test.YtllbdpdnpaocnaaGreatDoorRows
import GoSem.ClaimSeven
namespace Go.Proofs.YtllbdpdnpaocnaaGreatDoor
namespace Rows

/-- THE TIED CARD OF 'baizetop.WholeStep'. -/
def wholeStepCard : Claim7 := { stood := { row := wholeStepRow, standIns := [], harness := (true, "803e61204dbb17981eaaa4684dd0595233c68c9e1e438ed49fbe7e1c6f7b7875"), looks := true }, kinds := [], alts := [], laidByText := true, laidKinds := [.data, .data, .data, .listed, .data, .data, .data, .data], laidTests := true, laidLooks := .later }
def WholeStepCardSaid : Prop := Claim7.holds Tryz.pinned (.plain (OpenSpec.ofChange wholeStepSpec)) wholeStepCard

/-- THE SECOND FORM's CARD OF 'baizetop.WholeStep'. -/
def wholeStepUptoCard : Claim7 := { stood := { row := wholeStepUptoRow, standIns := [], harness := (true, "803e61204dbb17981eaaa4684dd0595233c68c9e1e438ed49fbe7e1c6f7b7875"), looks := true }, kinds := [], alts := [], laidByText := true, laidKinds := [.data, .data, .data, .listed, .data, .data, .data, .data], laidTests := true, laidLooks := .later }
def WholeStepUptoCardSaid : Prop := Claim7.holds Tryz.pinned (.plain (OpenSpec.upto wholeStepSpec)) wholeStepUptoCard
end Rows
end Go.Proofs.YtllbdpdnpaocnaaGreatDoor
