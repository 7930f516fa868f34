/-
  DERIVED. GIVEN WITH THE SEED: THE CARDS: each row of YtojbfmeeomhkoaaGreatDoorRows.lean that lists a variable, with what it lists TIED to the program's text (the seventh form; the later family's looks); each row that meets fmt, with fmt's text TOLD by the authors' own Lean function (tested against real Go, not proved from fmt's source: count such statements apart). THE CARD IS WHAT COUNTS. Prove the row's statement (the work); the ties are given (YtojbfmeeomhkoaaGreatDoorTie.lean); close each card by the builder's one call (the guide's Derived/Test/ToyasCard.lean, 'card_holds'). Laid BY PROGRAM, IN A SANDBOX (cutbox-door.mjs). By AI agents, Wed Nov 11 2026. No macro, syntax, notation, axiom, sorry.
-/
import Derived.Test.YtojbfmeeomhkoaaGreatDoorRows
import GoSem.ClaimSeven
namespace Go.Proofs.YtojbfmeeomhkoaaGreatDoor
namespace Rows

/-- THE TIED CARD OF 'amortcostlaw08.LowerNormal'. -/
def lowerNormalCard : Claim7 := { stood := { row := lowerNormalRow, standIns := [], harness := (true, "af7d0c7fea74d6413b2dd961ccb421e8f4e475e5ed3ec0ff77cb53457fc947a9"), looks := false }, kinds := [], alts := [], laidByText := true, laidKinds := [.data, .data, .data], laidTests := true, laidLooks := .later }
def LowerNormalCardSaid : Prop := Claim7.holds Tryz.pinned (.plain (OpenSpec.ofChange lowerNormalSpec)) lowerNormalCard

/-- THE SECOND FORM's CARD OF 'amortcostlaw08.LowerNormal'. -/
def lowerNormalUptoCard : Claim7 := { stood := { row := lowerNormalUptoRow, standIns := [], harness := (true, "af7d0c7fea74d6413b2dd961ccb421e8f4e475e5ed3ec0ff77cb53457fc947a9"), looks := false }, kinds := [], alts := [], laidByText := true, laidKinds := [.data, .data, .data], laidTests := true, laidLooks := .later }
def LowerNormalUptoCardSaid : Prop := Claim7.holds Tryz.pinned (.plain (OpenSpec.upto lowerNormalSpec)) lowerNormalUptoCard
end Rows
end Go.Proofs.YtojbfmeeomhkoaaGreatDoor
