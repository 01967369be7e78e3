/-
  DERIVED. GIVEN WITH THE SEED: THE CARDS: each row of YtjdoakbadehicaaGreatDoorRows.lean that lists a variable, with what it lists TIED to the program's text (the seventh form; the later family's looks); each row that meets fmt, with fmt's text TOLD by the authors' own Lean function (tested against real Go, not proved from fmt's source: count such statements apart). THE CARD IS WHAT COUNTS. Prove the row's statement (the work); the ties are given (YtjdoakbadehicaaGreatDoorTie.lean); close each card by the builder's one call (the guide's Derived/Test/ToyasCard.lean, 'card_holds'). Laid BY PROGRAM, IN A SANDBOX (cutbox-door.mjs). By AI agents, Wed Nov 11 2026. No macro, syntax, notation, axiom, sorry.
-/
import Derived.Test.YtjdoakbadehicaaGreatDoorRows
import GoSem.ClaimSeven
namespace Go.Proofs.YtjdoakbadehicaaGreatDoor
namespace Rows

/-- THE TIED CARD OF 'greenscreentop.WholeTyped'. -/
def wholeTypedCard : Claim7 := { stood := { row := wholeTypedRow, standIns := [], harness := (true, "afe52f4559ee7c53d3aee4ae544c96de10393b6a9ecb7b3cbaf5e4221e9b17c5"), looks := true }, kinds := [], alts := [], laidByText := true, laidKinds := [.data, .data, .data, .data], laidTests := true, laidLooks := .later }
def WholeTypedCardSaid : Prop := Claim7.holds Tryz.pinned (.plain (OpenSpec.ofChange wholeTypedSpec)) wholeTypedCard

/-- THE TIED CARD OF 'greenscreentop.WholeReads'. -/
def wholeReadsCard : Claim7 := { stood := { row := wholeReadsRow, standIns := [], harness := (true, "afe52f4559ee7c53d3aee4ae544c96de10393b6a9ecb7b3cbaf5e4221e9b17c5"), looks := true }, kinds := [], alts := [], laidByText := true, laidKinds := [.data, .data, .data, .data], laidTests := true, laidLooks := .later }
def WholeReadsCardSaid : Prop := Claim7.holds Tryz.pinned (.plain (OpenSpec.ofChange wholeReadsSpec)) wholeReadsCard

/-- THE TIED CARD OF 'greenscreentop.WholeMarks'. -/
def wholeMarksCard : Claim7 := { stood := { row := wholeMarksRow, standIns := [], harness := (true, "afe52f4559ee7c53d3aee4ae544c96de10393b6a9ecb7b3cbaf5e4221e9b17c5"), looks := true }, kinds := [], alts := [], laidByText := true, laidKinds := [.data, .data, .data, .data], laidTests := true, laidLooks := .later }
def WholeMarksCardSaid : Prop := Claim7.holds Tryz.pinned (.plain (OpenSpec.ofChange wholeMarksSpec)) wholeMarksCard

/-- THE TIED CARD OF 'greenscreentop.WholeEchoes'. -/
def wholeEchoesCard : Claim7 := { stood := { row := wholeEchoesRow, standIns := [], harness := (true, "afe52f4559ee7c53d3aee4ae544c96de10393b6a9ecb7b3cbaf5e4221e9b17c5"), looks := true }, kinds := [], alts := [], laidByText := true, laidKinds := [.data, .data, .data, .data], laidTests := true, laidLooks := .later }
def WholeEchoesCardSaid : Prop := Claim7.holds Tryz.pinned (.plain (OpenSpec.ofChange wholeEchoesSpec)) wholeEchoesCard

/-- THE TIED CARD OF 'greenscreentop.WholeClears'. -/
def wholeClearsCard : Claim7 := { stood := { row := wholeClearsRow, standIns := [], harness := (true, "afe52f4559ee7c53d3aee4ae544c96de10393b6a9ecb7b3cbaf5e4221e9b17c5"), looks := true }, kinds := [], alts := [], laidByText := true, laidKinds := [.data, .data, .data, .data], laidTests := true, laidLooks := .later }
def WholeClearsCardSaid : Prop := Claim7.holds Tryz.pinned (.plain (OpenSpec.ofChange wholeClearsSpec)) wholeClearsCard

/-- THE SECOND FORM's CARD OF 'greenscreentop.WholeTyped'. -/
def wholeTypedUptoCard : Claim7 := { stood := { row := wholeTypedUptoRow, standIns := [], harness := (true, "afe52f4559ee7c53d3aee4ae544c96de10393b6a9ecb7b3cbaf5e4221e9b17c5"), looks := true }, kinds := [], alts := [], laidByText := true, laidKinds := [.data, .data, .data, .data], laidTests := true, laidLooks := .later }
def WholeTypedUptoCardSaid : Prop := Claim7.holds Tryz.pinned (.plain (OpenSpec.upto wholeTypedSpec)) wholeTypedUptoCard

/-- THE SECOND FORM's CARD OF 'greenscreentop.WholeReads'. -/
def wholeReadsUptoCard : Claim7 := { stood := { row := wholeReadsUptoRow, standIns := [], harness := (true, "afe52f4559ee7c53d3aee4ae544c96de10393b6a9ecb7b3cbaf5e4221e9b17c5"), looks := true }, kinds := [], alts := [], laidByText := true, laidKinds := [.data, .data, .data, .data], laidTests := true, laidLooks := .later }
def WholeReadsUptoCardSaid : Prop := Claim7.holds Tryz.pinned (.plain (OpenSpec.upto wholeReadsSpec)) wholeReadsUptoCard

/-- THE SECOND FORM's CARD OF 'greenscreentop.WholeMarks'. -/
def wholeMarksUptoCard : Claim7 := { stood := { row := wholeMarksUptoRow, standIns := [], harness := (true, "afe52f4559ee7c53d3aee4ae544c96de10393b6a9ecb7b3cbaf5e4221e9b17c5"), looks := true }, kinds := [], alts := [], laidByText := true, laidKinds := [.data, .data, .data, .data], laidTests := true, laidLooks := .later }
def WholeMarksUptoCardSaid : Prop := Claim7.holds Tryz.pinned (.plain (OpenSpec.upto wholeMarksSpec)) wholeMarksUptoCard

/-- THE SECOND FORM's CARD OF 'greenscreentop.WholeEchoes'. -/
def wholeEchoesUptoCard : Claim7 := { stood := { row := wholeEchoesUptoRow, standIns := [], harness := (true, "afe52f4559ee7c53d3aee4ae544c96de10393b6a9ecb7b3cbaf5e4221e9b17c5"), looks := true }, kinds := [], alts := [], laidByText := true, laidKinds := [.data, .data, .data, .data], laidTests := true, laidLooks := .later }
def WholeEchoesUptoCardSaid : Prop := Claim7.holds Tryz.pinned (.plain (OpenSpec.upto wholeEchoesSpec)) wholeEchoesUptoCard

/-- THE SECOND FORM's CARD OF 'greenscreentop.WholeClears'. -/
def wholeClearsUptoCard : Claim7 := { stood := { row := wholeClearsUptoRow, standIns := [], harness := (true, "afe52f4559ee7c53d3aee4ae544c96de10393b6a9ecb7b3cbaf5e4221e9b17c5"), looks := true }, kinds := [], alts := [], laidByText := true, laidKinds := [.data, .data, .data, .data], laidTests := true, laidLooks := .later }
def WholeClearsUptoCardSaid : Prop := Claim7.holds Tryz.pinned (.plain (OpenSpec.upto wholeClearsSpec)) wholeClearsUptoCard
end Rows
end Go.Proofs.YtjdoakbadehicaaGreatDoor
