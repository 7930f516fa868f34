/-
  DERIVED. GIVEN WITH THE SEED: THE CARDS: each row of YtifplkldbbcldaaGreatDoorRows.lean that lists a variable, with what it lists TIED to the program's text (the seventh form; the later family's looks); each row that meets fmt, with fmt's text TOLD by the authors' own Lean function (tested against real Go, not proved from fmt's source: count such statements apart). THE CARD IS WHAT COUNTS. Prove the row's statement (the work); the ties are given (YtifplkldbbcldaaGreatDoorTie.lean); close each card by the builder's one call (the guide's Derived/Test/ToyasCard.lean, 'card_holds'). Laid BY PROGRAM, IN A SANDBOX (cutbox-door.mjs). By AI agents, Wed Nov 11 2026. No macro, syntax, notation, axiom, sorry.
-/
import Derived.Test.YtifplkldbbcldaaGreatDoorRows
import GoSem.ClaimSeven
namespace Go.Proofs.YtifplkldbbcldaaGreatDoor
namespace Rows

/-- THE TIED CARD OF 'amortcostlaw04.SyntaxParses'. -/
def syntaxParsesCard : Claim7 := { stood := { row := syntaxParsesRow, standIns := [], harness := (true, "21a277a3e8a610eced9e93bcce68d99d4ad37844a2772ead4278e0ed35489f0c"), looks := true }, kinds := [], alts := [], laidByText := true, laidKinds := [.data, .data, .data, .sentinel, .sentinel], laidTests := true, laidLooks := .later }
def SyntaxParsesCardSaid : Prop := Claim7.holds Tryz.pinned (.plain (OpenSpec.ofChange syntaxParsesSpec)) syntaxParsesCard

/-- THE TIED CARD OF 'amortcostlaw04.SyntaxFormats'. -/
def syntaxFormatsCard : Claim7 := { stood := { row := syntaxFormatsRow, standIns := [], harness := (true, "21a277a3e8a610eced9e93bcce68d99d4ad37844a2772ead4278e0ed35489f0c"), looks := true }, kinds := [], alts := [], laidByText := true, laidKinds := [.data, .data, .data, .sentinel, .sentinel], laidTests := true, laidLooks := .later }
def SyntaxFormatsCardSaid : Prop := Claim7.holds Tryz.pinned (.plain (OpenSpec.ofChange syntaxFormatsSpec)) syntaxFormatsCard

/-- THE TIED CARD OF 'amortcostlaw04.SyntaxLimits'. -/
def syntaxLimitsCard : Claim7 := { stood := { row := syntaxLimitsRow, standIns := [], harness := (true, "21a277a3e8a610eced9e93bcce68d99d4ad37844a2772ead4278e0ed35489f0c"), looks := true }, kinds := [], alts := [], laidByText := true, laidKinds := [.data, .data, .data, .sentinel, .sentinel], laidTests := true, laidLooks := .later }
def SyntaxLimitsCardSaid : Prop := Claim7.holds Tryz.pinned (.plain (OpenSpec.ofChange syntaxLimitsSpec)) syntaxLimitsCard

/-- THE TIED CARD OF 'amortcostlaw04.SyntaxBack'. -/
def syntaxBackCard : Claim7 := { stood := { row := syntaxBackRow, standIns := [], harness := (true, "21a277a3e8a610eced9e93bcce68d99d4ad37844a2772ead4278e0ed35489f0c"), looks := true }, kinds := [], alts := [], laidByText := true, laidKinds := [.data, .data, .data, .sentinel, .sentinel], laidTests := true, laidLooks := .later }
def SyntaxBackCardSaid : Prop := Claim7.holds Tryz.pinned (.plain (OpenSpec.ofChange syntaxBackSpec)) syntaxBackCard

/-- THE TIED CARD OF 'amortcostlaw04.SyntaxTexts'. -/
def syntaxTextsCard : Claim7 := { stood := { row := syntaxTextsRow, standIns := [], harness := (true, "21a277a3e8a610eced9e93bcce68d99d4ad37844a2772ead4278e0ed35489f0c"), looks := true }, kinds := [], alts := [], laidByText := true, laidKinds := [.data, .data, .data, .sentinel, .sentinel], laidTests := true, laidLooks := .later }
def SyntaxTextsCardSaid : Prop := Claim7.holds Tryz.pinned (.plain (OpenSpec.ofChange syntaxTextsSpec)) syntaxTextsCard

/-- THE TIED CARD OF 'amortcostlaw04.SyntaxBlanks'. -/
def syntaxBlanksCard : Claim7 := { stood := { row := syntaxBlanksRow, standIns := [], harness := (true, "21a277a3e8a610eced9e93bcce68d99d4ad37844a2772ead4278e0ed35489f0c"), looks := true }, kinds := [], alts := [], laidByText := true, laidKinds := [.data, .data, .data, .sentinel, .sentinel], laidTests := true, laidLooks := .later }
def SyntaxBlanksCardSaid : Prop := Claim7.holds Tryz.pinned (.plain (OpenSpec.ofChange syntaxBlanksSpec)) syntaxBlanksCard

/-- THE TIED CARD OF 'amortcostlaw04.SyntaxRows'. -/
def syntaxRowsCard : Claim7 := { stood := { row := syntaxRowsRow, standIns := [], harness := (true, "21a277a3e8a610eced9e93bcce68d99d4ad37844a2772ead4278e0ed35489f0c"), looks := true }, kinds := [], alts := [], laidByText := true, laidKinds := [.data, .data, .data, .sentinel, .sentinel], laidTests := true, laidLooks := .later }
def SyntaxRowsCardSaid : Prop := Claim7.holds Tryz.pinned (.plain (OpenSpec.ofChange syntaxRowsSpec)) syntaxRowsCard

/-- THE TIED CARD OF 'amortcostlaw04.SyntaxExpressions'. -/
def syntaxExpressionsCard : Claim7 := { stood := { row := syntaxExpressionsRow, standIns := [], harness := (true, "21a277a3e8a610eced9e93bcce68d99d4ad37844a2772ead4278e0ed35489f0c"), looks := true }, kinds := [], alts := [], laidByText := true, laidKinds := [.data, .data, .data, .sentinel, .sentinel], laidTests := true, laidLooks := .later }
def SyntaxExpressionsCardSaid : Prop := Claim7.holds Tryz.pinned (.plain (OpenSpec.ofChange syntaxExpressionsSpec)) syntaxExpressionsCard

/-- THE TIED CARD OF 'amortcostlaw04.SyntaxCompares'. -/
def syntaxComparesCard : Claim7 := { stood := { row := syntaxComparesRow, standIns := [], harness := (true, "21a277a3e8a610eced9e93bcce68d99d4ad37844a2772ead4278e0ed35489f0c"), looks := true }, kinds := [], alts := [], laidByText := true, laidKinds := [.data, .data, .data, .sentinel, .sentinel], laidTests := true, laidLooks := .later }
def SyntaxComparesCardSaid : Prop := Claim7.holds Tryz.pinned (.plain (OpenSpec.ofChange syntaxComparesSpec)) syntaxComparesCard

/-- THE SECOND FORM's CARD OF 'amortcostlaw04.SyntaxParses'. -/
def syntaxParsesUptoCard : Claim7 := { stood := { row := syntaxParsesUptoRow, standIns := [], harness := (true, "21a277a3e8a610eced9e93bcce68d99d4ad37844a2772ead4278e0ed35489f0c"), looks := true }, kinds := [], alts := [], laidByText := true, laidKinds := [.data, .data, .data, .sentinel, .sentinel], laidTests := true, laidLooks := .later }
def SyntaxParsesUptoCardSaid : Prop := Claim7.holds Tryz.pinned (.plain (OpenSpec.upto syntaxParsesSpec)) syntaxParsesUptoCard

/-- THE SECOND FORM's CARD OF 'amortcostlaw04.SyntaxFormats'. -/
def syntaxFormatsUptoCard : Claim7 := { stood := { row := syntaxFormatsUptoRow, standIns := [], harness := (true, "21a277a3e8a610eced9e93bcce68d99d4ad37844a2772ead4278e0ed35489f0c"), looks := true }, kinds := [], alts := [], laidByText := true, laidKinds := [.data, .data, .data, .sentinel, .sentinel], laidTests := true, laidLooks := .later }
def SyntaxFormatsUptoCardSaid : Prop := Claim7.holds Tryz.pinned (.plain (OpenSpec.upto syntaxFormatsSpec)) syntaxFormatsUptoCard

/-- THE SECOND FORM's CARD OF 'amortcostlaw04.SyntaxLimits'. -/
def syntaxLimitsUptoCard : Claim7 := { stood := { row := syntaxLimitsUptoRow, standIns := [], harness := (true, "21a277a3e8a610eced9e93bcce68d99d4ad37844a2772ead4278e0ed35489f0c"), looks := true }, kinds := [], alts := [], laidByText := true, laidKinds := [.data, .data, .data, .sentinel, .sentinel], laidTests := true, laidLooks := .later }
def SyntaxLimitsUptoCardSaid : Prop := Claim7.holds Tryz.pinned (.plain (OpenSpec.upto syntaxLimitsSpec)) syntaxLimitsUptoCard

/-- THE SECOND FORM's CARD OF 'amortcostlaw04.SyntaxBack'. -/
def syntaxBackUptoCard : Claim7 := { stood := { row := syntaxBackUptoRow, standIns := [], harness := (true, "21a277a3e8a610eced9e93bcce68d99d4ad37844a2772ead4278e0ed35489f0c"), looks := true }, kinds := [], alts := [], laidByText := true, laidKinds := [.data, .data, .data, .sentinel, .sentinel], laidTests := true, laidLooks := .later }
def SyntaxBackUptoCardSaid : Prop := Claim7.holds Tryz.pinned (.plain (OpenSpec.upto syntaxBackSpec)) syntaxBackUptoCard

/-- THE SECOND FORM's CARD OF 'amortcostlaw04.SyntaxTexts'. -/
def syntaxTextsUptoCard : Claim7 := { stood := { row := syntaxTextsUptoRow, standIns := [], harness := (true, "21a277a3e8a610eced9e93bcce68d99d4ad37844a2772ead4278e0ed35489f0c"), looks := true }, kinds := [], alts := [], laidByText := true, laidKinds := [.data, .data, .data, .sentinel, .sentinel], laidTests := true, laidLooks := .later }
def SyntaxTextsUptoCardSaid : Prop := Claim7.holds Tryz.pinned (.plain (OpenSpec.upto syntaxTextsSpec)) syntaxTextsUptoCard

/-- THE SECOND FORM's CARD OF 'amortcostlaw04.SyntaxBlanks'. -/
def syntaxBlanksUptoCard : Claim7 := { stood := { row := syntaxBlanksUptoRow, standIns := [], harness := (true, "21a277a3e8a610eced9e93bcce68d99d4ad37844a2772ead4278e0ed35489f0c"), looks := true }, kinds := [], alts := [], laidByText := true, laidKinds := [.data, .data, .data, .sentinel, .sentinel], laidTests := true, laidLooks := .later }
def SyntaxBlanksUptoCardSaid : Prop := Claim7.holds Tryz.pinned (.plain (OpenSpec.upto syntaxBlanksSpec)) syntaxBlanksUptoCard

/-- THE SECOND FORM's CARD OF 'amortcostlaw04.SyntaxRows'. -/
def syntaxRowsUptoCard : Claim7 := { stood := { row := syntaxRowsUptoRow, standIns := [], harness := (true, "21a277a3e8a610eced9e93bcce68d99d4ad37844a2772ead4278e0ed35489f0c"), looks := true }, kinds := [], alts := [], laidByText := true, laidKinds := [.data, .data, .data, .sentinel, .sentinel], laidTests := true, laidLooks := .later }
def SyntaxRowsUptoCardSaid : Prop := Claim7.holds Tryz.pinned (.plain (OpenSpec.upto syntaxRowsSpec)) syntaxRowsUptoCard

/-- THE SECOND FORM's CARD OF 'amortcostlaw04.SyntaxExpressions'. -/
def syntaxExpressionsUptoCard : Claim7 := { stood := { row := syntaxExpressionsUptoRow, standIns := [], harness := (true, "21a277a3e8a610eced9e93bcce68d99d4ad37844a2772ead4278e0ed35489f0c"), looks := true }, kinds := [], alts := [], laidByText := true, laidKinds := [.data, .data, .data, .sentinel, .sentinel], laidTests := true, laidLooks := .later }
def SyntaxExpressionsUptoCardSaid : Prop := Claim7.holds Tryz.pinned (.plain (OpenSpec.upto syntaxExpressionsSpec)) syntaxExpressionsUptoCard

/-- THE SECOND FORM's CARD OF 'amortcostlaw04.SyntaxCompares'. -/
def syntaxComparesUptoCard : Claim7 := { stood := { row := syntaxComparesUptoRow, standIns := [], harness := (true, "21a277a3e8a610eced9e93bcce68d99d4ad37844a2772ead4278e0ed35489f0c"), looks := true }, kinds := [], alts := [], laidByText := true, laidKinds := [.data, .data, .data, .sentinel, .sentinel], laidTests := true, laidLooks := .later }
def SyntaxComparesUptoCardSaid : Prop := Claim7.holds Tryz.pinned (.plain (OpenSpec.upto syntaxComparesSpec)) syntaxComparesUptoCard
end Rows
end Go.Proofs.YtifplkldbbcldaaGreatDoor
