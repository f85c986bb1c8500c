/-
  DERIVED. GIVEN WITH THE SEED: THE CARDS: each row of YtimcjldehememaaDoorRows.lean that lists a variable, with what it lists TIED to the program's text (the seventh form; the later family's looks); each row that meets fmt, with fmt's text TOLD by the authors' own Lean function (tested against real Go, not proved from fmt's source: count such statements apart). THE CARD IS WHAT COUNTS. Prove the row's statement (the work); the ties are given (YtimcjldehememaaDoorTie.lean); close each card by the builder's one call (the guide's Derived/Test/ToyasCard.lean, 'card_holds'). Laid BY PROGRAM, IN A SANDBOX (cutbox-door.mjs). By AI agents, Wed Nov 11 2026. No macro, syntax, notation, axiom, sorry.
-/
import Derived.Test.YtimcjldehememaaDoorRows
import GoSem.ClaimSeven
namespace Go.Proofs.YtimcjldehememaaDoor
namespace Rows

/-- THE TIED CARD OF 'baizelaw04.TreeRoots'. -/
def treeRootsCard : Claim7 := { stood := { row := treeRootsRow, standIns := [], harness := (true, "7d64e59712e3aaaa40cbab891ec5546034d752e52a2eef40b42916de7308a734"), looks := false }, kinds := [], alts := [], laidByText := true, laidKinds := [.data, .data, .data], laidTests := true, laidLooks := .later }
def TreeRootsCardSaid : Prop := Claim7.holds Tryd.pinned (.plain (OpenSpec.ofChange treeRootsSpec)) treeRootsCard

/-- THE TIED CARD OF 'baizelaw04.TreePaths'. -/
def treePathsCard : Claim7 := { stood := { row := treePathsRow, standIns := [], harness := (true, "7d64e59712e3aaaa40cbab891ec5546034d752e52a2eef40b42916de7308a734"), looks := false }, kinds := [], alts := [], laidByText := true, laidKinds := [.data, .data, .data], laidTests := true, laidLooks := .later }
def TreePathsCardSaid : Prop := Claim7.holds Tryd.pinned (.plain (OpenSpec.ofChange treePathsSpec)) treePathsCard

/-- THE TIED CARD OF 'baizelaw04.TreeChecks'. -/
def treeChecksCard : Claim7 := { stood := { row := treeChecksRow, standIns := [], harness := (true, "7d64e59712e3aaaa40cbab891ec5546034d752e52a2eef40b42916de7308a734"), looks := false }, kinds := [], alts := [], laidByText := true, laidKinds := [.data, .data, .data], laidTests := true, laidLooks := .later }
def TreeChecksCardSaid : Prop := Claim7.holds Tryd.pinned (.plain (OpenSpec.ofChange treeChecksSpec)) treeChecksCard

/-- THE TIED CARD OF 'baizelaw04.TreeWiths'. -/
def treeWithsCard : Claim7 := { stood := { row := treeWithsRow, standIns := [], harness := (true, "7d64e59712e3aaaa40cbab891ec5546034d752e52a2eef40b42916de7308a734"), looks := false }, kinds := [], alts := [], laidByText := true, laidKinds := [.data, .data, .data], laidTests := true, laidLooks := .later }
def TreeWithsCardSaid : Prop := Claim7.holds Tryd.pinned (.plain (OpenSpec.ofChange treeWithsSpec)) treeWithsCard

/-- THE TIED CARD OF 'baizelaw04.TreeOthers'. -/
def treeOthersCard : Claim7 := { stood := { row := treeOthersRow, standIns := [], harness := (true, "7d64e59712e3aaaa40cbab891ec5546034d752e52a2eef40b42916de7308a734"), looks := false }, kinds := [], alts := [], laidByText := true, laidKinds := [.data, .data, .data], laidTests := true, laidLooks := .later }
def TreeOthersCardSaid : Prop := Claim7.holds Tryd.pinned (.plain (OpenSpec.ofChange treeOthersSpec)) treeOthersCard

/-- THE TIED CARD OF 'baizelaw04.TreeSets'. -/
def treeSetsCard : Claim7 := { stood := { row := treeSetsRow, standIns := [], harness := (true, "7d64e59712e3aaaa40cbab891ec5546034d752e52a2eef40b42916de7308a734"), looks := false }, kinds := [], alts := [], laidByText := true, laidKinds := [.data, .data, .data], laidTests := true, laidLooks := .later }
def TreeSetsCardSaid : Prop := Claim7.holds Tryd.pinned (.plain (OpenSpec.ofChange treeSetsSpec)) treeSetsCard

/-- THE TIED CARD OF 'baizelaw04.TreeClones'. -/
def treeClonesCard : Claim7 := { stood := { row := treeClonesRow, standIns := [], harness := (true, "7d64e59712e3aaaa40cbab891ec5546034d752e52a2eef40b42916de7308a734"), looks := false }, kinds := [], alts := [], laidByText := true, laidKinds := [.data, .data, .data], laidTests := true, laidLooks := .later }
def TreeClonesCardSaid : Prop := Claim7.holds Tryd.pinned (.plain (OpenSpec.ofChange treeClonesSpec)) treeClonesCard

/-- THE TIED CARD OF 'baizelaw04.TreeNones'. -/
def treeNonesCard : Claim7 := { stood := { row := treeNonesRow, standIns := [], harness := (true, "7d64e59712e3aaaa40cbab891ec5546034d752e52a2eef40b42916de7308a734"), looks := false }, kinds := [], alts := [], laidByText := true, laidKinds := [.data, .data, .data], laidTests := true, laidLooks := .later }
def TreeNonesCardSaid : Prop := Claim7.holds Tryd.pinned (.plain (OpenSpec.ofChange treeNonesSpec)) treeNonesCard

/-- THE SECOND FORM's CARD OF 'baizelaw04.TreeRoots'. -/
def treeRootsUptoCard : Claim7 := { stood := { row := treeRootsUptoRow, standIns := [], harness := (true, "7d64e59712e3aaaa40cbab891ec5546034d752e52a2eef40b42916de7308a734"), looks := false }, kinds := [], alts := [], laidByText := true, laidKinds := [.data, .data, .data], laidTests := true, laidLooks := .later }
def TreeRootsUptoCardSaid : Prop := Claim7.holds Tryd.pinned (.plain (OpenSpec.upto treeRootsSpec)) treeRootsUptoCard

/-- THE SECOND FORM's CARD OF 'baizelaw04.TreePaths'. -/
def treePathsUptoCard : Claim7 := { stood := { row := treePathsUptoRow, standIns := [], harness := (true, "7d64e59712e3aaaa40cbab891ec5546034d752e52a2eef40b42916de7308a734"), looks := false }, kinds := [], alts := [], laidByText := true, laidKinds := [.data, .data, .data], laidTests := true, laidLooks := .later }
def TreePathsUptoCardSaid : Prop := Claim7.holds Tryd.pinned (.plain (OpenSpec.upto treePathsSpec)) treePathsUptoCard

/-- THE SECOND FORM's CARD OF 'baizelaw04.TreeChecks'. -/
def treeChecksUptoCard : Claim7 := { stood := { row := treeChecksUptoRow, standIns := [], harness := (true, "7d64e59712e3aaaa40cbab891ec5546034d752e52a2eef40b42916de7308a734"), looks := false }, kinds := [], alts := [], laidByText := true, laidKinds := [.data, .data, .data], laidTests := true, laidLooks := .later }
def TreeChecksUptoCardSaid : Prop := Claim7.holds Tryd.pinned (.plain (OpenSpec.upto treeChecksSpec)) treeChecksUptoCard

/-- THE SECOND FORM's CARD OF 'baizelaw04.TreeWiths'. -/
def treeWithsUptoCard : Claim7 := { stood := { row := treeWithsUptoRow, standIns := [], harness := (true, "7d64e59712e3aaaa40cbab891ec5546034d752e52a2eef40b42916de7308a734"), looks := false }, kinds := [], alts := [], laidByText := true, laidKinds := [.data, .data, .data], laidTests := true, laidLooks := .later }
def TreeWithsUptoCardSaid : Prop := Claim7.holds Tryd.pinned (.plain (OpenSpec.upto treeWithsSpec)) treeWithsUptoCard

/-- THE SECOND FORM's CARD OF 'baizelaw04.TreeOthers'. -/
def treeOthersUptoCard : Claim7 := { stood := { row := treeOthersUptoRow, standIns := [], harness := (true, "7d64e59712e3aaaa40cbab891ec5546034d752e52a2eef40b42916de7308a734"), looks := false }, kinds := [], alts := [], laidByText := true, laidKinds := [.data, .data, .data], laidTests := true, laidLooks := .later }
def TreeOthersUptoCardSaid : Prop := Claim7.holds Tryd.pinned (.plain (OpenSpec.upto treeOthersSpec)) treeOthersUptoCard

/-- THE SECOND FORM's CARD OF 'baizelaw04.TreeSets'. -/
def treeSetsUptoCard : Claim7 := { stood := { row := treeSetsUptoRow, standIns := [], harness := (true, "7d64e59712e3aaaa40cbab891ec5546034d752e52a2eef40b42916de7308a734"), looks := false }, kinds := [], alts := [], laidByText := true, laidKinds := [.data, .data, .data], laidTests := true, laidLooks := .later }
def TreeSetsUptoCardSaid : Prop := Claim7.holds Tryd.pinned (.plain (OpenSpec.upto treeSetsSpec)) treeSetsUptoCard

/-- THE SECOND FORM's CARD OF 'baizelaw04.TreeClones'. -/
def treeClonesUptoCard : Claim7 := { stood := { row := treeClonesUptoRow, standIns := [], harness := (true, "7d64e59712e3aaaa40cbab891ec5546034d752e52a2eef40b42916de7308a734"), looks := false }, kinds := [], alts := [], laidByText := true, laidKinds := [.data, .data, .data], laidTests := true, laidLooks := .later }
def TreeClonesUptoCardSaid : Prop := Claim7.holds Tryd.pinned (.plain (OpenSpec.upto treeClonesSpec)) treeClonesUptoCard

/-- THE SECOND FORM's CARD OF 'baizelaw04.TreeNones'. -/
def treeNonesUptoCard : Claim7 := { stood := { row := treeNonesUptoRow, standIns := [], harness := (true, "7d64e59712e3aaaa40cbab891ec5546034d752e52a2eef40b42916de7308a734"), looks := false }, kinds := [], alts := [], laidByText := true, laidKinds := [.data, .data, .data], laidTests := true, laidLooks := .later }
def TreeNonesUptoCardSaid : Prop := Claim7.holds Tryd.pinned (.plain (OpenSpec.upto treeNonesSpec)) treeNonesUptoCard
end Rows
end Go.Proofs.YtimcjldehememaaDoor
