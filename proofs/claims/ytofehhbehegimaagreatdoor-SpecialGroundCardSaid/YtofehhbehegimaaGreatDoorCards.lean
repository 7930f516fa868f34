/-
  DERIVED. GIVEN WITH THE SEED: THE CARDS: each row of YtofehhbehegimaaGreatDoorRows.lean that lists a variable, with what it lists TIED to the program's text (the seventh form; the later family's looks); each row that meets fmt, with fmt's text TOLD by the authors' own Lean function (tested against real Go, not proved from fmt's source: count such statements apart). THE CARD IS WHAT COUNTS. Prove the row's statement (the work); the ties are given (YtofehhbehegimaaGreatDoorTie.lean); close each card by the builder's one call (the guide's Derived/Test/ToyasCard.lean, 'card_holds'). Laid BY PROGRAM, IN A SANDBOX (cutbox-door.mjs). By AI agents, Wed Nov 11 2026. No macro, syntax, notation, axiom, sorry.
-/
import Derived.Test.YtofehhbehegimaaGreatDoorRows
import GoSem.ClaimSeven
namespace Go.Proofs.YtofehhbehegimaaGreatDoor
namespace Rows

/-- THE TIED CARD OF 'amortcostlaw07.SpecialCloses'. -/
def specialClosesCard : Claim7 := { stood := { row := specialClosesRow, standIns := [], harness := (true, "3d9c7e5ced9a6be71c9a93b29d22e6907a21ebd9f273b80f5dfea4fe4a7c3ccd"), looks := false }, kinds := [], alts := [], laidByText := true, laidKinds := [.data, .data, .data], laidTests := true, laidLooks := .later }
def SpecialClosesCardSaid : Prop := Claim7.holds Tryz.pinned (.plain (OpenSpec.ofChange specialClosesSpec)) specialClosesCard

/-- THE TIED CARD OF 'amortcostlaw07.SpecialSubstitutes'. -/
def specialSubstitutesCard : Claim7 := { stood := { row := specialSubstitutesRow, standIns := [], harness := (true, "3d9c7e5ced9a6be71c9a93b29d22e6907a21ebd9f273b80f5dfea4fe4a7c3ccd"), looks := false }, kinds := [], alts := [], laidByText := true, laidKinds := [.data, .data, .data], laidTests := true, laidLooks := .later }
def SpecialSubstitutesCardSaid : Prop := Claim7.holds Tryz.pinned (.plain (OpenSpec.ofChange specialSubstitutesSpec)) specialSubstitutesCard

/-- THE TIED CARD OF 'amortcostlaw07.SpecialGround'. -/
def specialGroundCard : Claim7 := { stood := { row := specialGroundRow, standIns := [], harness := (true, "3d9c7e5ced9a6be71c9a93b29d22e6907a21ebd9f273b80f5dfea4fe4a7c3ccd"), looks := false }, kinds := [], alts := [], laidByText := true, laidKinds := [.data, .data, .data], laidTests := true, laidLooks := .later }
def SpecialGroundCardSaid : Prop := Claim7.holds Tryz.pinned (.plain (OpenSpec.ofChange specialGroundSpec)) specialGroundCard

/-- THE TIED CARD OF 'amortcostlaw08.LowerLocals'. -/
def lowerLocalsCard : Claim7 := { stood := { row := lowerLocalsRow, standIns := [], harness := (true, "3d9c7e5ced9a6be71c9a93b29d22e6907a21ebd9f273b80f5dfea4fe4a7c3ccd"), looks := false }, kinds := [], alts := [], laidByText := true, laidKinds := [.data, .data, .data], laidTests := true, laidLooks := .later }
def LowerLocalsCardSaid : Prop := Claim7.holds Tryz.pinned (.plain (OpenSpec.ofChange lowerLocalsSpec)) lowerLocalsCard

/-- THE TIED CARD OF 'amortcostlaw08.LowerNormal'. -/
def lowerNormalCard : Claim7 := { stood := { row := lowerNormalRow, standIns := [], harness := (true, "3d9c7e5ced9a6be71c9a93b29d22e6907a21ebd9f273b80f5dfea4fe4a7c3ccd"), looks := false }, kinds := [], alts := [], laidByText := true, laidKinds := [.data, .data, .data], laidTests := true, laidLooks := .later }
def LowerNormalCardSaid : Prop := Claim7.holds Tryz.pinned (.plain (OpenSpec.ofChange lowerNormalSpec)) lowerNormalCard

/-- THE SECOND FORM's CARD OF 'amortcostlaw07.SpecialCloses'. -/
def specialClosesUptoCard : Claim7 := { stood := { row := specialClosesUptoRow, standIns := [], harness := (true, "3d9c7e5ced9a6be71c9a93b29d22e6907a21ebd9f273b80f5dfea4fe4a7c3ccd"), looks := false }, kinds := [], alts := [], laidByText := true, laidKinds := [.data, .data, .data], laidTests := true, laidLooks := .later }
def SpecialClosesUptoCardSaid : Prop := Claim7.holds Tryz.pinned (.plain (OpenSpec.upto specialClosesSpec)) specialClosesUptoCard

/-- THE SECOND FORM's CARD OF 'amortcostlaw07.SpecialSubstitutes'. -/
def specialSubstitutesUptoCard : Claim7 := { stood := { row := specialSubstitutesUptoRow, standIns := [], harness := (true, "3d9c7e5ced9a6be71c9a93b29d22e6907a21ebd9f273b80f5dfea4fe4a7c3ccd"), looks := false }, kinds := [], alts := [], laidByText := true, laidKinds := [.data, .data, .data], laidTests := true, laidLooks := .later }
def SpecialSubstitutesUptoCardSaid : Prop := Claim7.holds Tryz.pinned (.plain (OpenSpec.upto specialSubstitutesSpec)) specialSubstitutesUptoCard

/-- THE SECOND FORM's CARD OF 'amortcostlaw07.SpecialGround'. -/
def specialGroundUptoCard : Claim7 := { stood := { row := specialGroundUptoRow, standIns := [], harness := (true, "3d9c7e5ced9a6be71c9a93b29d22e6907a21ebd9f273b80f5dfea4fe4a7c3ccd"), looks := false }, kinds := [], alts := [], laidByText := true, laidKinds := [.data, .data, .data], laidTests := true, laidLooks := .later }
def SpecialGroundUptoCardSaid : Prop := Claim7.holds Tryz.pinned (.plain (OpenSpec.upto specialGroundSpec)) specialGroundUptoCard

/-- THE SECOND FORM's CARD OF 'amortcostlaw08.LowerLocals'. -/
def lowerLocalsUptoCard : Claim7 := { stood := { row := lowerLocalsUptoRow, standIns := [], harness := (true, "3d9c7e5ced9a6be71c9a93b29d22e6907a21ebd9f273b80f5dfea4fe4a7c3ccd"), looks := false }, kinds := [], alts := [], laidByText := true, laidKinds := [.data, .data, .data], laidTests := true, laidLooks := .later }
def LowerLocalsUptoCardSaid : Prop := Claim7.holds Tryz.pinned (.plain (OpenSpec.upto lowerLocalsSpec)) lowerLocalsUptoCard

/-- THE SECOND FORM's CARD OF 'amortcostlaw08.LowerNormal'. -/
def lowerNormalUptoCard : Claim7 := { stood := { row := lowerNormalUptoRow, standIns := [], harness := (true, "3d9c7e5ced9a6be71c9a93b29d22e6907a21ebd9f273b80f5dfea4fe4a7c3ccd"), looks := false }, kinds := [], alts := [], laidByText := true, laidKinds := [.data, .data, .data], laidTests := true, laidLooks := .later }
def LowerNormalUptoCardSaid : Prop := Claim7.holds Tryz.pinned (.plain (OpenSpec.upto lowerNormalSpec)) lowerNormalUptoCard
end Rows
end Go.Proofs.YtofehhbehegimaaGreatDoor
