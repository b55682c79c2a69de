/-
  DERIVED. GIVEN WITH THE SEED: THE CARDS: each row of YtldhknmacepeiaaGreatDoorRows.lean that lists a variable, with what it lists TIED to the program's text (the seventh form; the later family's looks); each row that meets fmt, with fmt's text TOLD by the authors' own Lean function (tested against real Go, not proved from fmt's source: count such statements apart). THE CARD IS WHAT COUNTS. Prove the row's statement (the work); the ties are given (YtldhknmacepeiaaGreatDoorTie.lean); close each card by the builder's one call (the guide's Derived/Test/ToyasCard.lean, 'card_holds'). Laid BY PROGRAM, IN A SANDBOX (cutbox-door.mjs). By AI agents, Wed Nov 11 2026. No macro, syntax, notation, axiom, sorry.
-/
import Derived.Test.YtldhknmacepeiaaGreatDoorRows
import GoSem.ClaimSeven
namespace Go.Proofs.YtldhknmacepeiaaGreatDoor
namespace Rows

/-- THE TIED CARD OF 'flyballlaw08.DeciPrints'. -/
def deciPrintsCard : Claim7 := { stood := { row := deciPrintsRow, standIns := [], harness := (true, "bec51637f44b2d08a4e7a99698ead0382cbe30e10acba2c740bfdad54f541158"), looks := true }, kinds := [], alts := [], laidByText := true, laidKinds := [.data, .data, .data, .data, .pinned], laidTests := true, laidLooks := .later }
def DeciPrintsCardSaid : Prop := Claim7.holds Tryz.pinned (.plain (OpenSpec.ofChange deciPrintsSpec)) deciPrintsCard

/-- THE TIED CARD OF 'flyballlaw08.DeciBack'. -/
def deciBackCard : Claim7 := { stood := { row := deciBackRow, standIns := [], harness := (true, "bec51637f44b2d08a4e7a99698ead0382cbe30e10acba2c740bfdad54f541158"), looks := true }, kinds := [], alts := [], laidByText := true, laidKinds := [.data, .data, .data, .data, .pinned], laidTests := true, laidLooks := .later }
def DeciBackCardSaid : Prop := Claim7.holds Tryz.pinned (.plain (OpenSpec.ofChange deciBackSpec)) deciBackCard

/-- THE TIED CARD OF 'flyballlaw08.DeciExact'. -/
def deciExactCard : Claim7 := { stood := { row := deciExactRow, standIns := [], harness := (true, "bec51637f44b2d08a4e7a99698ead0382cbe30e10acba2c740bfdad54f541158"), looks := true }, kinds := [], alts := [], laidByText := true, laidKinds := [.data, .data, .data, .data, .pinned], laidTests := true, laidLooks := .later }
def DeciExactCardSaid : Prop := Claim7.holds Tryz.pinned (.plain (OpenSpec.ofChange deciExactSpec)) deciExactCard

/-- THE TIED CARD OF 'flyballlaw09.LexLexes'. -/
def lexLexesCard : Claim7 := { stood := { row := lexLexesRow, standIns := [], harness := (true, "bec51637f44b2d08a4e7a99698ead0382cbe30e10acba2c740bfdad54f541158"), looks := true }, kinds := [], alts := [], laidByText := true, laidKinds := [.data, .data, .data, .data, .sentinel, .sentinel, .pinned], laidTests := true, laidLooks := .later }
def LexLexesCardSaid : Prop := Claim7.holds Tryz.pinned (.plain (OpenSpec.ofChange lexLexesSpec)) lexLexesCard

/-- THE TIED CARD OF 'flyballlaw09.LexPlaces'. -/
def lexPlacesCard : Claim7 := { stood := { row := lexPlacesRow, standIns := [], harness := (true, "bec51637f44b2d08a4e7a99698ead0382cbe30e10acba2c740bfdad54f541158"), looks := true }, kinds := [], alts := [], laidByText := true, laidKinds := [.data, .data, .data, .data, .sentinel, .sentinel, .pinned], laidTests := true, laidLooks := .later }
def LexPlacesCardSaid : Prop := Claim7.holds Tryz.pinned (.plain (OpenSpec.ofChange lexPlacesSpec)) lexPlacesCard

/-- THE TIED CARD OF 'flyballlaw10.TreePrints'. -/
def treePrintsCard : Claim7 := { stood := { row := treePrintsRow, standIns := [], harness := (true, "bec51637f44b2d08a4e7a99698ead0382cbe30e10acba2c740bfdad54f541158"), looks := true }, kinds := [], alts := [], laidByText := true, laidKinds := [.data, .data, .data, .data, .data, .pinned], laidTests := true, laidLooks := .later }
def TreePrintsCardSaid : Prop := Claim7.holds Tryz.pinned (.plain (OpenSpec.ofChange treePrintsSpec)) treePrintsCard

/-- THE TIED CARD OF 'flyballlaw10.TreeAlike'. -/
def treeAlikeCard : Claim7 := { stood := { row := treeAlikeRow, standIns := [], harness := (true, "bec51637f44b2d08a4e7a99698ead0382cbe30e10acba2c740bfdad54f541158"), looks := true }, kinds := [], alts := [], laidByText := true, laidKinds := [.data, .data, .data, .data, .data, .pinned], laidTests := true, laidLooks := .later }
def TreeAlikeCardSaid : Prop := Claim7.holds Tryz.pinned (.plain (OpenSpec.ofChange treeAlikeSpec)) treeAlikeCard

/-- THE TIED CARD OF 'flyballlaw09.LexBlanks'. -/
def lexBlanksCard : Claim7 := { stood := { row := lexBlanksRow, standIns := [], harness := (true, "bec51637f44b2d08a4e7a99698ead0382cbe30e10acba2c740bfdad54f541158"), looks := true }, kinds := [], alts := [], laidByText := true, laidKinds := [.data, .data, .data, .data, .sentinel, .sentinel, .pinned], laidTests := true, laidLooks := .later }
def LexBlanksCardSaid : Prop := Claim7.holds Tryz.pinned (.plain (OpenSpec.ofChange lexBlanksSpec)) lexBlanksCard

/-- THE SECOND FORM's CARD OF 'flyballlaw08.DeciPrints'. -/
def deciPrintsUptoCard : Claim7 := { stood := { row := deciPrintsUptoRow, standIns := [], harness := (true, "bec51637f44b2d08a4e7a99698ead0382cbe30e10acba2c740bfdad54f541158"), looks := true }, kinds := [], alts := [], laidByText := true, laidKinds := [.data, .data, .data, .data, .pinned], laidTests := true, laidLooks := .later }
def DeciPrintsUptoCardSaid : Prop := Claim7.holds Tryz.pinned (.plain (OpenSpec.upto deciPrintsSpec)) deciPrintsUptoCard

/-- THE SECOND FORM's CARD OF 'flyballlaw08.DeciBack'. -/
def deciBackUptoCard : Claim7 := { stood := { row := deciBackUptoRow, standIns := [], harness := (true, "bec51637f44b2d08a4e7a99698ead0382cbe30e10acba2c740bfdad54f541158"), looks := true }, kinds := [], alts := [], laidByText := true, laidKinds := [.data, .data, .data, .data, .pinned], laidTests := true, laidLooks := .later }
def DeciBackUptoCardSaid : Prop := Claim7.holds Tryz.pinned (.plain (OpenSpec.upto deciBackSpec)) deciBackUptoCard

/-- THE SECOND FORM's CARD OF 'flyballlaw08.DeciExact'. -/
def deciExactUptoCard : Claim7 := { stood := { row := deciExactUptoRow, standIns := [], harness := (true, "bec51637f44b2d08a4e7a99698ead0382cbe30e10acba2c740bfdad54f541158"), looks := true }, kinds := [], alts := [], laidByText := true, laidKinds := [.data, .data, .data, .data, .pinned], laidTests := true, laidLooks := .later }
def DeciExactUptoCardSaid : Prop := Claim7.holds Tryz.pinned (.plain (OpenSpec.upto deciExactSpec)) deciExactUptoCard

/-- THE SECOND FORM's CARD OF 'flyballlaw09.LexLexes'. -/
def lexLexesUptoCard : Claim7 := { stood := { row := lexLexesUptoRow, standIns := [], harness := (true, "bec51637f44b2d08a4e7a99698ead0382cbe30e10acba2c740bfdad54f541158"), looks := true }, kinds := [], alts := [], laidByText := true, laidKinds := [.data, .data, .data, .data, .sentinel, .sentinel, .pinned], laidTests := true, laidLooks := .later }
def LexLexesUptoCardSaid : Prop := Claim7.holds Tryz.pinned (.plain (OpenSpec.upto lexLexesSpec)) lexLexesUptoCard

/-- THE SECOND FORM's CARD OF 'flyballlaw09.LexPlaces'. -/
def lexPlacesUptoCard : Claim7 := { stood := { row := lexPlacesUptoRow, standIns := [], harness := (true, "bec51637f44b2d08a4e7a99698ead0382cbe30e10acba2c740bfdad54f541158"), looks := true }, kinds := [], alts := [], laidByText := true, laidKinds := [.data, .data, .data, .data, .sentinel, .sentinel, .pinned], laidTests := true, laidLooks := .later }
def LexPlacesUptoCardSaid : Prop := Claim7.holds Tryz.pinned (.plain (OpenSpec.upto lexPlacesSpec)) lexPlacesUptoCard

/-- THE SECOND FORM's CARD OF 'flyballlaw10.TreePrints'. -/
def treePrintsUptoCard : Claim7 := { stood := { row := treePrintsUptoRow, standIns := [], harness := (true, "bec51637f44b2d08a4e7a99698ead0382cbe30e10acba2c740bfdad54f541158"), looks := true }, kinds := [], alts := [], laidByText := true, laidKinds := [.data, .data, .data, .data, .data, .pinned], laidTests := true, laidLooks := .later }
def TreePrintsUptoCardSaid : Prop := Claim7.holds Tryz.pinned (.plain (OpenSpec.upto treePrintsSpec)) treePrintsUptoCard

/-- THE SECOND FORM's CARD OF 'flyballlaw10.TreeAlike'. -/
def treeAlikeUptoCard : Claim7 := { stood := { row := treeAlikeUptoRow, standIns := [], harness := (true, "bec51637f44b2d08a4e7a99698ead0382cbe30e10acba2c740bfdad54f541158"), looks := true }, kinds := [], alts := [], laidByText := true, laidKinds := [.data, .data, .data, .data, .data, .pinned], laidTests := true, laidLooks := .later }
def TreeAlikeUptoCardSaid : Prop := Claim7.holds Tryz.pinned (.plain (OpenSpec.upto treeAlikeSpec)) treeAlikeUptoCard

/-- THE SECOND FORM's CARD OF 'flyballlaw09.LexBlanks'. -/
def lexBlanksUptoCard : Claim7 := { stood := { row := lexBlanksUptoRow, standIns := [], harness := (true, "bec51637f44b2d08a4e7a99698ead0382cbe30e10acba2c740bfdad54f541158"), looks := true }, kinds := [], alts := [], laidByText := true, laidKinds := [.data, .data, .data, .data, .sentinel, .sentinel, .pinned], laidTests := true, laidLooks := .later }
def LexBlanksUptoCardSaid : Prop := Claim7.holds Tryz.pinned (.plain (OpenSpec.upto lexBlanksSpec)) lexBlanksUptoCard
end Rows
end Go.Proofs.YtldhknmacepeiaaGreatDoor
