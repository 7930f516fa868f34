/-
  DERIVED. GIVEN WITH THE SEED: THE CARDS: each row of YtdbpmhfepfpldaaDoorRows.lean that lists a variable, with what it lists TIED to the program's text (the seventh form; the later family's looks); each row that meets fmt, with fmt's text TOLD by the authors' own Lean function (tested against real Go, not proved from fmt's source: count such statements apart). THE CARD IS WHAT COUNTS. Prove the row's statement (the work); the ties are given (YtdbpmhfepfpldaaDoorTie.lean); close each card by the builder's one call (the guide's Derived/Test/ToyasCard.lean, 'card_holds'). Laid BY PROGRAM, IN A SANDBOX (cutbox-door.mjs). By AI agents, Wed Nov 11 2026. No macro, syntax, notation, axiom, sorry.
-/
import Derived.Test.YtdbpmhfepfpldaaDoorRows
import GoSem.ClaimSeven
namespace Go.Proofs.YtdbpmhfepfpldaaDoor
namespace Rows

/-- THE TIED CARD OF 'amortcostlaw06.TypingTexts'. -/
def typingTextsCard : Claim7 := { stood := { row := typingTextsRow, standIns := [], harness := (true, "77d8020c10c3e82ea6b5e5ed0f848ba91c8775fd7cc19528a90a5aa01435b65e"), looks := false }, kinds := [], alts := [], laidByText := true, laidKinds := [.data, .data, .data], laidTests := true, laidLooks := .later }
def TypingTextsCardSaid : Prop := Claim7.holds Tryd.pinned (.plain (OpenSpec.ofChange typingTextsSpec)) typingTextsCard

/-- THE TIED CARD OF 'amortcostlaw19.FormBasics'. -/
def formBasicsCard : Claim7 := { stood := { row := formBasicsRow, standIns := [], harness := (true, "77d8020c10c3e82ea6b5e5ed0f848ba91c8775fd7cc19528a90a5aa01435b65e"), looks := false }, kinds := [], alts := [], laidByText := true, laidKinds := [.data, .data, .data], laidTests := true, laidLooks := .later }
def FormBasicsCardSaid : Prop := Claim7.holds Tryd.pinned (.plain (OpenSpec.ofChange formBasicsSpec)) formBasicsCard

/-- THE TIED CARD OF 'amortcostlaw19.FormTexts'. -/
def formTextsCard : Claim7 := { stood := { row := formTextsRow, standIns := [], harness := (true, "77d8020c10c3e82ea6b5e5ed0f848ba91c8775fd7cc19528a90a5aa01435b65e"), looks := false }, kinds := [], alts := [], laidByText := true, laidKinds := [.data, .data, .data], laidTests := true, laidLooks := .later }
def FormTextsCardSaid : Prop := Claim7.holds Tryd.pinned (.plain (OpenSpec.ofChange formTextsSpec)) formTextsCard

/-- THE TIED CARD OF 'amortcostlaw19.FormSums'. -/
def formSumsCard : Claim7 := { stood := { row := formSumsRow, standIns := [], harness := (true, "77d8020c10c3e82ea6b5e5ed0f848ba91c8775fd7cc19528a90a5aa01435b65e"), looks := false }, kinds := [], alts := [], laidByText := true, laidKinds := [.data, .data, .data], laidTests := true, laidLooks := .later }
def FormSumsCardSaid : Prop := Claim7.holds Tryd.pinned (.plain (OpenSpec.ofChange formSumsSpec)) formSumsCard

/-- THE TIED CARD OF 'amortcostlaw19.FormCanonicals'. -/
def formCanonicalsCard : Claim7 := { stood := { row := formCanonicalsRow, standIns := [], harness := (true, "77d8020c10c3e82ea6b5e5ed0f848ba91c8775fd7cc19528a90a5aa01435b65e"), looks := false }, kinds := [], alts := [], laidByText := true, laidKinds := [.data, .data, .data], laidTests := true, laidLooks := .later }
def FormCanonicalsCardSaid : Prop := Claim7.holds Tryd.pinned (.plain (OpenSpec.ofChange formCanonicalsSpec)) formCanonicalsCard

/-- THE TIED CARD OF 'amortcostlaw19.FormUnique'. -/
def formUniqueCard : Claim7 := { stood := { row := formUniqueRow, standIns := [], harness := (true, "77d8020c10c3e82ea6b5e5ed0f848ba91c8775fd7cc19528a90a5aa01435b65e"), looks := false }, kinds := [], alts := [], laidByText := true, laidKinds := [.data, .data, .data], laidTests := true, laidLooks := .later }
def FormUniqueCardSaid : Prop := Claim7.holds Tryd.pinned (.plain (OpenSpec.ofChange formUniqueSpec)) formUniqueCard

/-- THE TIED CARD OF 'amortcostlaw19.FormCompares'. -/
def formComparesCard : Claim7 := { stood := { row := formComparesRow, standIns := [], harness := (true, "77d8020c10c3e82ea6b5e5ed0f848ba91c8775fd7cc19528a90a5aa01435b65e"), looks := false }, kinds := [], alts := [], laidByText := true, laidKinds := [.data, .data, .data], laidTests := true, laidLooks := .later }
def FormComparesCardSaid : Prop := Claim7.holds Tryd.pinned (.plain (OpenSpec.ofChange formComparesSpec)) formComparesCard

/-- THE TIED CARD OF 'amortcostlaw19.FormSubstitutes'. -/
def formSubstitutesCard : Claim7 := { stood := { row := formSubstitutesRow, standIns := [], harness := (true, "77d8020c10c3e82ea6b5e5ed0f848ba91c8775fd7cc19528a90a5aa01435b65e"), looks := false }, kinds := [], alts := [], laidByText := true, laidKinds := [.data, .data, .data], laidTests := true, laidLooks := .later }
def FormSubstitutesCardSaid : Prop := Claim7.holds Tryd.pinned (.plain (OpenSpec.ofChange formSubstitutesSpec)) formSubstitutesCard

/-- THE SECOND FORM's CARD OF 'amortcostlaw06.TypingTexts'. -/
def typingTextsUptoCard : Claim7 := { stood := { row := typingTextsUptoRow, standIns := [], harness := (true, "77d8020c10c3e82ea6b5e5ed0f848ba91c8775fd7cc19528a90a5aa01435b65e"), looks := false }, kinds := [], alts := [], laidByText := true, laidKinds := [.data, .data, .data], laidTests := true, laidLooks := .later }
def TypingTextsUptoCardSaid : Prop := Claim7.holds Tryd.pinned (.plain (OpenSpec.upto typingTextsSpec)) typingTextsUptoCard

/-- THE SECOND FORM's CARD OF 'amortcostlaw19.FormBasics'. -/
def formBasicsUptoCard : Claim7 := { stood := { row := formBasicsUptoRow, standIns := [], harness := (true, "77d8020c10c3e82ea6b5e5ed0f848ba91c8775fd7cc19528a90a5aa01435b65e"), looks := false }, kinds := [], alts := [], laidByText := true, laidKinds := [.data, .data, .data], laidTests := true, laidLooks := .later }
def FormBasicsUptoCardSaid : Prop := Claim7.holds Tryd.pinned (.plain (OpenSpec.upto formBasicsSpec)) formBasicsUptoCard

/-- THE SECOND FORM's CARD OF 'amortcostlaw19.FormTexts'. -/
def formTextsUptoCard : Claim7 := { stood := { row := formTextsUptoRow, standIns := [], harness := (true, "77d8020c10c3e82ea6b5e5ed0f848ba91c8775fd7cc19528a90a5aa01435b65e"), looks := false }, kinds := [], alts := [], laidByText := true, laidKinds := [.data, .data, .data], laidTests := true, laidLooks := .later }
def FormTextsUptoCardSaid : Prop := Claim7.holds Tryd.pinned (.plain (OpenSpec.upto formTextsSpec)) formTextsUptoCard

/-- THE SECOND FORM's CARD OF 'amortcostlaw19.FormSums'. -/
def formSumsUptoCard : Claim7 := { stood := { row := formSumsUptoRow, standIns := [], harness := (true, "77d8020c10c3e82ea6b5e5ed0f848ba91c8775fd7cc19528a90a5aa01435b65e"), looks := false }, kinds := [], alts := [], laidByText := true, laidKinds := [.data, .data, .data], laidTests := true, laidLooks := .later }
def FormSumsUptoCardSaid : Prop := Claim7.holds Tryd.pinned (.plain (OpenSpec.upto formSumsSpec)) formSumsUptoCard

/-- THE SECOND FORM's CARD OF 'amortcostlaw19.FormCanonicals'. -/
def formCanonicalsUptoCard : Claim7 := { stood := { row := formCanonicalsUptoRow, standIns := [], harness := (true, "77d8020c10c3e82ea6b5e5ed0f848ba91c8775fd7cc19528a90a5aa01435b65e"), looks := false }, kinds := [], alts := [], laidByText := true, laidKinds := [.data, .data, .data], laidTests := true, laidLooks := .later }
def FormCanonicalsUptoCardSaid : Prop := Claim7.holds Tryd.pinned (.plain (OpenSpec.upto formCanonicalsSpec)) formCanonicalsUptoCard

/-- THE SECOND FORM's CARD OF 'amortcostlaw19.FormUnique'. -/
def formUniqueUptoCard : Claim7 := { stood := { row := formUniqueUptoRow, standIns := [], harness := (true, "77d8020c10c3e82ea6b5e5ed0f848ba91c8775fd7cc19528a90a5aa01435b65e"), looks := false }, kinds := [], alts := [], laidByText := true, laidKinds := [.data, .data, .data], laidTests := true, laidLooks := .later }
def FormUniqueUptoCardSaid : Prop := Claim7.holds Tryd.pinned (.plain (OpenSpec.upto formUniqueSpec)) formUniqueUptoCard

/-- THE SECOND FORM's CARD OF 'amortcostlaw19.FormCompares'. -/
def formComparesUptoCard : Claim7 := { stood := { row := formComparesUptoRow, standIns := [], harness := (true, "77d8020c10c3e82ea6b5e5ed0f848ba91c8775fd7cc19528a90a5aa01435b65e"), looks := false }, kinds := [], alts := [], laidByText := true, laidKinds := [.data, .data, .data], laidTests := true, laidLooks := .later }
def FormComparesUptoCardSaid : Prop := Claim7.holds Tryd.pinned (.plain (OpenSpec.upto formComparesSpec)) formComparesUptoCard

/-- THE SECOND FORM's CARD OF 'amortcostlaw19.FormSubstitutes'. -/
def formSubstitutesUptoCard : Claim7 := { stood := { row := formSubstitutesUptoRow, standIns := [], harness := (true, "77d8020c10c3e82ea6b5e5ed0f848ba91c8775fd7cc19528a90a5aa01435b65e"), looks := false }, kinds := [], alts := [], laidByText := true, laidKinds := [.data, .data, .data], laidTests := true, laidLooks := .later }
def FormSubstitutesUptoCardSaid : Prop := Claim7.holds Tryd.pinned (.plain (OpenSpec.upto formSubstitutesSpec)) formSubstitutesUptoCard
end Rows
end Go.Proofs.YtdbpmhfepfpldaaDoor
