/-
  DERIVED. GIVEN WITH THE SEED: THE CARDS: each row of YtakfdlokgddaoaaDoorRows.lean that lists a variable, with what it lists TIED to the program's text (the seventh form; the later family's looks); each row that meets fmt, with fmt's text TOLD by the authors' own Lean function (tested against real Go, not proved from fmt's source: count such statements apart). THE CARD IS WHAT COUNTS. Prove the row's statement (the work); the ties are given (YtakfdlokgddaoaaDoorTie.lean); close each card by the builder's one call (the guide's Derived/Test/ToyasCard.lean, 'card_holds'). Laid BY PROGRAM, IN A SANDBOX (cutbox-door.mjs). By AI agents, Wed Nov 11 2026. No macro, syntax, notation, axiom, sorry.
-/
import Derived.Test.YtakfdlokgddaoaaDoorRows
import GoSem.ClaimSeven
namespace Go.Proofs.YtakfdlokgddaoaaDoor
namespace Rows

/-- THE TIED CARD OF 'baizetop.WholeLeaf'. -/
def wholeLeafCard : Claim7 := { stood := { row := wholeLeafRow, standIns := [], harness := (true, "6279713bf304e3f76b23e4ca12255447030ab520df26c2fa04d0fca704ed98ed"), looks := false }, kinds := [], alts := [], laidByText := true, laidKinds := [.data, .data, .data], laidTests := true, laidLooks := .later }
def WholeLeafCardSaid : Prop := Claim7.holds Tryd.pinned (.plain (OpenSpec.ofChange wholeLeafSpec)) wholeLeafCard

/-- THE TIED CARD OF 'baizetop.WholeAlike'. -/
def wholeAlikeCard : Claim7 := { stood := { row := wholeAlikeRow, standIns := [], harness := (true, "6279713bf304e3f76b23e4ca12255447030ab520df26c2fa04d0fca704ed98ed"), looks := false }, kinds := [], alts := [], laidByText := true, laidKinds := [.data, .data, .data], laidTests := true, laidLooks := .later }
def WholeAlikeCardSaid : Prop := Claim7.holds Tryd.pinned (.plain (OpenSpec.ofChange wholeAlikeSpec)) wholeAlikeCard

/-- THE SECOND FORM's CARD OF 'baizetop.WholeLeaf'. -/
def wholeLeafUptoCard : Claim7 := { stood := { row := wholeLeafUptoRow, standIns := [], harness := (true, "6279713bf304e3f76b23e4ca12255447030ab520df26c2fa04d0fca704ed98ed"), looks := false }, kinds := [], alts := [], laidByText := true, laidKinds := [.data, .data, .data], laidTests := true, laidLooks := .later }
def WholeLeafUptoCardSaid : Prop := Claim7.holds Tryd.pinned (.plain (OpenSpec.upto wholeLeafSpec)) wholeLeafUptoCard

/-- THE SECOND FORM's CARD OF 'baizetop.WholeAlike'. -/
def wholeAlikeUptoCard : Claim7 := { stood := { row := wholeAlikeUptoRow, standIns := [], harness := (true, "6279713bf304e3f76b23e4ca12255447030ab520df26c2fa04d0fca704ed98ed"), looks := false }, kinds := [], alts := [], laidByText := true, laidKinds := [.data, .data, .data], laidTests := true, laidLooks := .later }
def WholeAlikeUptoCardSaid : Prop := Claim7.holds Tryd.pinned (.plain (OpenSpec.upto wholeAlikeSpec)) wholeAlikeUptoCard
end Rows
end Go.Proofs.YtakfdlokgddaoaaDoor
