/-
  DERIVED. GIVEN WITH THE SEED: THE CARDS: each row of YtkjkmahpkfbbnaaDoorRows.lean that lists a variable, with what it lists TIED to the program's text (the seventh form; the later family's looks); each row that meets fmt, with fmt's text TOLD by the authors' own Lean function (tested against real Go, not proved from fmt's source: count such statements apart). THE CARD IS WHAT COUNTS. Prove the row's statement (the work); the ties are given (YtkjkmahpkfbbnaaDoorTie.lean); close each card by the builder's one call (the guide's Derived/Test/ToyasCard.lean, 'card_holds'). Laid BY PROGRAM, IN A SANDBOX (cutbox-door.mjs). By AI agents, Wed Nov 11 2026. No macro, syntax, notation, axiom, sorry.
-/
import Derived.Test.YtkjkmahpkfbbnaaDoorRows
import GoSem.ClaimSeven
namespace Go.Proofs.YtkjkmahpkfbbnaaDoor
namespace Rows

/-- THE TIED CARD OF 'greenscreenlaw25.GrammarParses'. -/
def grammarParsesCard : Claim7 := { stood := { row := grammarParsesRow, standIns := [], harness := (true, "1afaa4571aff63d21323be146678d96839ec51e25541c1fe70f5c4dc2dea9715"), looks := true }, kinds := [], alts := [], laidByText := true, laidKinds := [.data, .data, .data, .data], laidTests := true, laidLooks := .later }
def GrammarParsesCardSaid : Prop := Claim7.holds Tryd.pinned (.plain (OpenSpec.ofChange grammarParsesSpec)) grammarParsesCard

/-- THE TIED CARD OF 'greenscreenlaw25.GrammarWrites'. -/
def grammarWritesCard : Claim7 := { stood := { row := grammarWritesRow, standIns := [], harness := (true, "1afaa4571aff63d21323be146678d96839ec51e25541c1fe70f5c4dc2dea9715"), looks := true }, kinds := [], alts := [], laidByText := true, laidKinds := [.data, .data, .data, .data], laidTests := true, laidLooks := .later }
def GrammarWritesCardSaid : Prop := Claim7.holds Tryd.pinned (.plain (OpenSpec.ofChange grammarWritesSpec)) grammarWritesCard

/-- THE TIED CARD OF 'greenscreenlaw25.GrammarBack'. -/
def grammarBackCard : Claim7 := { stood := { row := grammarBackRow, standIns := [], harness := (true, "1afaa4571aff63d21323be146678d96839ec51e25541c1fe70f5c4dc2dea9715"), looks := true }, kinds := [], alts := [], laidByText := true, laidKinds := [.data, .data, .data, .data], laidTests := true, laidLooks := .later }
def GrammarBackCardSaid : Prop := Claim7.holds Tryd.pinned (.plain (OpenSpec.ofChange grammarBackSpec)) grammarBackCard

/-- THE TIED CARD OF 'greenscreenlaw25.GrammarItems'. -/
def grammarItemsCard : Claim7 := { stood := { row := grammarItemsRow, standIns := [], harness := (true, "1afaa4571aff63d21323be146678d96839ec51e25541c1fe70f5c4dc2dea9715"), looks := true }, kinds := [], alts := [], laidByText := true, laidKinds := [.data, .data, .data, .data], laidTests := true, laidLooks := .later }
def GrammarItemsCardSaid : Prop := Claim7.holds Tryd.pinned (.plain (OpenSpec.ofChange grammarItemsSpec)) grammarItemsCard

/-- THE SECOND FORM's CARD OF 'greenscreenlaw25.GrammarParses'. -/
def grammarParsesUptoCard : Claim7 := { stood := { row := grammarParsesUptoRow, standIns := [], harness := (true, "1afaa4571aff63d21323be146678d96839ec51e25541c1fe70f5c4dc2dea9715"), looks := true }, kinds := [], alts := [], laidByText := true, laidKinds := [.data, .data, .data, .data], laidTests := true, laidLooks := .later }
def GrammarParsesUptoCardSaid : Prop := Claim7.holds Tryd.pinned (.plain (OpenSpec.upto grammarParsesSpec)) grammarParsesUptoCard

/-- THE SECOND FORM's CARD OF 'greenscreenlaw25.GrammarWrites'. -/
def grammarWritesUptoCard : Claim7 := { stood := { row := grammarWritesUptoRow, standIns := [], harness := (true, "1afaa4571aff63d21323be146678d96839ec51e25541c1fe70f5c4dc2dea9715"), looks := true }, kinds := [], alts := [], laidByText := true, laidKinds := [.data, .data, .data, .data], laidTests := true, laidLooks := .later }
def GrammarWritesUptoCardSaid : Prop := Claim7.holds Tryd.pinned (.plain (OpenSpec.upto grammarWritesSpec)) grammarWritesUptoCard

/-- THE SECOND FORM's CARD OF 'greenscreenlaw25.GrammarBack'. -/
def grammarBackUptoCard : Claim7 := { stood := { row := grammarBackUptoRow, standIns := [], harness := (true, "1afaa4571aff63d21323be146678d96839ec51e25541c1fe70f5c4dc2dea9715"), looks := true }, kinds := [], alts := [], laidByText := true, laidKinds := [.data, .data, .data, .data], laidTests := true, laidLooks := .later }
def GrammarBackUptoCardSaid : Prop := Claim7.holds Tryd.pinned (.plain (OpenSpec.upto grammarBackSpec)) grammarBackUptoCard

/-- THE SECOND FORM's CARD OF 'greenscreenlaw25.GrammarItems'. -/
def grammarItemsUptoCard : Claim7 := { stood := { row := grammarItemsUptoRow, standIns := [], harness := (true, "1afaa4571aff63d21323be146678d96839ec51e25541c1fe70f5c4dc2dea9715"), looks := true }, kinds := [], alts := [], laidByText := true, laidKinds := [.data, .data, .data, .data], laidTests := true, laidLooks := .later }
def GrammarItemsUptoCardSaid : Prop := Claim7.holds Tryd.pinned (.plain (OpenSpec.upto grammarItemsSpec)) grammarItemsUptoCard
end Rows
end Go.Proofs.YtkjkmahpkfbbnaaDoor
