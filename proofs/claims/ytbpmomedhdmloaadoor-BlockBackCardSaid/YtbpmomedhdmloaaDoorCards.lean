/-
  DERIVED. GIVEN WITH THE SEED: THE CARDS: each row of YtbpmomedhdmloaaDoorRows.lean that lists a variable, with what it lists TIED to the program's text (the seventh form; the later family's looks); each row that meets fmt, with fmt's text TOLD by the authors' own Lean function (tested against real Go, not proved from fmt's source: count such statements apart). THE CARD IS WHAT COUNTS. Prove the row's statement (the work); the ties are given (YtbpmomedhdmloaaDoorTie.lean); close each card by the builder's one call (the guide's Derived/Test/ToyasCard.lean, 'card_holds'). Laid BY PROGRAM, IN A SANDBOX (cutbox-door.mjs). By AI agents, Wed Nov 11 2026. No macro, syntax, notation, axiom, sorry.
-/
import Derived.Test.YtbpmomedhdmloaaDoorRows
import GoSem.ClaimSeven
namespace Go.Proofs.YtbpmomedhdmloaaDoor
namespace Rows

/-- THE TIED CARD OF 'baizelaw26.BlockAbove'. -/
def blockAboveCard : Claim7 := { stood := { row := blockAboveRow, standIns := [], harness := (true, "95011ae2c24000d54e46081b9086839c671ba38f9c9cab2712335988e3af22c5"), looks := false }, kinds := [], alts := [], laidByText := true, laidKinds := [.data, .data, .data], laidTests := true, laidLooks := .later }
def BlockAboveCardSaid : Prop := Claim7.holds Tryd.pinned (.plain (OpenSpec.ofChange blockAboveSpec)) blockAboveCard

/-- THE TIED CARD OF 'baizelaw26.BlockFees'. -/
def blockFeesCard : Claim7 := { stood := { row := blockFeesRow, standIns := [], harness := (true, "95011ae2c24000d54e46081b9086839c671ba38f9c9cab2712335988e3af22c5"), looks := false }, kinds := [], alts := [], laidByText := true, laidKinds := [.data, .data, .data], laidTests := true, laidLooks := .later }
def BlockFeesCardSaid : Prop := Claim7.holds Tryd.pinned (.plain (OpenSpec.ofChange blockFeesSpec)) blockFeesCard

/-- THE TIED CARD OF 'baizelaw26.BlockSame'. -/
def blockSameCard : Claim7 := { stood := { row := blockSameRow, standIns := [], harness := (true, "95011ae2c24000d54e46081b9086839c671ba38f9c9cab2712335988e3af22c5"), looks := false }, kinds := [], alts := [], laidByText := true, laidKinds := [.data, .data, .data], laidTests := true, laidLooks := .later }
def BlockSameCardSaid : Prop := Claim7.holds Tryd.pinned (.plain (OpenSpec.ofChange blockSameSpec)) blockSameCard

/-- THE TIED CARD OF 'baizelaw26.BlockShown'. -/
def blockShownCard : Claim7 := { stood := { row := blockShownRow, standIns := [], harness := (true, "95011ae2c24000d54e46081b9086839c671ba38f9c9cab2712335988e3af22c5"), looks := false }, kinds := [], alts := [], laidByText := true, laidKinds := [.data, .data, .data], laidTests := true, laidLooks := .later }
def BlockShownCardSaid : Prop := Claim7.holds Tryd.pinned (.plain (OpenSpec.ofChange blockShownSpec)) blockShownCard

/-- THE TIED CARD OF 'baizelaw26.BlockBack'. -/
def blockBackCard : Claim7 := { stood := { row := blockBackRow, standIns := [], harness := (true, "95011ae2c24000d54e46081b9086839c671ba38f9c9cab2712335988e3af22c5"), looks := false }, kinds := [], alts := [], laidByText := true, laidKinds := [.data, .data, .data], laidTests := true, laidLooks := .later }
def BlockBackCardSaid : Prop := Claim7.holds Tryd.pinned (.plain (OpenSpec.ofChange blockBackSpec)) blockBackCard

/-- THE SECOND FORM's CARD OF 'baizelaw26.BlockAbove'. -/
def blockAboveUptoCard : Claim7 := { stood := { row := blockAboveUptoRow, standIns := [], harness := (true, "95011ae2c24000d54e46081b9086839c671ba38f9c9cab2712335988e3af22c5"), looks := false }, kinds := [], alts := [], laidByText := true, laidKinds := [.data, .data, .data], laidTests := true, laidLooks := .later }
def BlockAboveUptoCardSaid : Prop := Claim7.holds Tryd.pinned (.plain (OpenSpec.upto blockAboveSpec)) blockAboveUptoCard

/-- THE SECOND FORM's CARD OF 'baizelaw26.BlockFees'. -/
def blockFeesUptoCard : Claim7 := { stood := { row := blockFeesUptoRow, standIns := [], harness := (true, "95011ae2c24000d54e46081b9086839c671ba38f9c9cab2712335988e3af22c5"), looks := false }, kinds := [], alts := [], laidByText := true, laidKinds := [.data, .data, .data], laidTests := true, laidLooks := .later }
def BlockFeesUptoCardSaid : Prop := Claim7.holds Tryd.pinned (.plain (OpenSpec.upto blockFeesSpec)) blockFeesUptoCard

/-- THE SECOND FORM's CARD OF 'baizelaw26.BlockSame'. -/
def blockSameUptoCard : Claim7 := { stood := { row := blockSameUptoRow, standIns := [], harness := (true, "95011ae2c24000d54e46081b9086839c671ba38f9c9cab2712335988e3af22c5"), looks := false }, kinds := [], alts := [], laidByText := true, laidKinds := [.data, .data, .data], laidTests := true, laidLooks := .later }
def BlockSameUptoCardSaid : Prop := Claim7.holds Tryd.pinned (.plain (OpenSpec.upto blockSameSpec)) blockSameUptoCard

/-- THE SECOND FORM's CARD OF 'baizelaw26.BlockShown'. -/
def blockShownUptoCard : Claim7 := { stood := { row := blockShownUptoRow, standIns := [], harness := (true, "95011ae2c24000d54e46081b9086839c671ba38f9c9cab2712335988e3af22c5"), looks := false }, kinds := [], alts := [], laidByText := true, laidKinds := [.data, .data, .data], laidTests := true, laidLooks := .later }
def BlockShownUptoCardSaid : Prop := Claim7.holds Tryd.pinned (.plain (OpenSpec.upto blockShownSpec)) blockShownUptoCard

/-- THE SECOND FORM's CARD OF 'baizelaw26.BlockBack'. -/
def blockBackUptoCard : Claim7 := { stood := { row := blockBackUptoRow, standIns := [], harness := (true, "95011ae2c24000d54e46081b9086839c671ba38f9c9cab2712335988e3af22c5"), looks := false }, kinds := [], alts := [], laidByText := true, laidKinds := [.data, .data, .data], laidTests := true, laidLooks := .later }
def BlockBackUptoCardSaid : Prop := Claim7.holds Tryd.pinned (.plain (OpenSpec.upto blockBackSpec)) blockBackUptoCard
end Rows
end Go.Proofs.YtbpmomedhdmloaaDoor
