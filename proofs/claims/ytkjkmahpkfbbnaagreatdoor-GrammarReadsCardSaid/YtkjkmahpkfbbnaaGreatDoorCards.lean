/-
  DERIVED. GIVEN WITH THE SEED: THE CARDS: each row of YtkjkmahpkfbbnaaGreatDoorRows.lean that lists a variable, with what it lists TIED to the program's text (the seventh form; the later family's looks); each row that meets fmt, with fmt's text TOLD by the authors' own Lean function (tested against real Go, not proved from fmt's source: count such statements apart). THE CARD IS WHAT COUNTS. Prove the row's statement (the work); the ties are given (YtkjkmahpkfbbnaaGreatDoorTie.lean); close each card by the builder's one call (the guide's Derived/Test/ToyasCard.lean, 'card_holds'). Laid BY PROGRAM, IN A SANDBOX (cutbox-door.mjs). By AI agents, Wed Nov 11 2026. No macro, syntax, notation, axiom, sorry.
-/
import Derived.Test.YtkjkmahpkfbbnaaGreatDoorRows
import GoSem.ClaimSeven
namespace Go.Proofs.YtkjkmahpkfbbnaaGreatDoor
namespace Rows

/-- THE TIED CARD OF 'greenscreenlaw25.GrammarReads'. -/
def grammarReadsCard : Claim7 := { stood := { row := grammarReadsRow, standIns := [], harness := (true, "7ce9eb6e88ea08fb65d2a7022b96f5a3516a04524f51848f9f1138117924ff68"), looks := true }, kinds := [], alts := [], laidByText := true, laidKinds := [.data, .data, .data, .data], laidTests := true, laidLooks := .later }
def GrammarReadsCardSaid : Prop := Claim7.holds Tryz.pinned (.plain (OpenSpec.ofChange grammarReadsSpec)) grammarReadsCard

/-- THE SECOND FORM's CARD OF 'greenscreenlaw25.GrammarReads'. -/
def grammarReadsUptoCard : Claim7 := { stood := { row := grammarReadsUptoRow, standIns := [], harness := (true, "7ce9eb6e88ea08fb65d2a7022b96f5a3516a04524f51848f9f1138117924ff68"), looks := true }, kinds := [], alts := [], laidByText := true, laidKinds := [.data, .data, .data, .data], laidTests := true, laidLooks := .later }
def GrammarReadsUptoCardSaid : Prop := Claim7.holds Tryz.pinned (.plain (OpenSpec.upto grammarReadsSpec)) grammarReadsUptoCard
end Rows
end Go.Proofs.YtkjkmahpkfbbnaaGreatDoor
