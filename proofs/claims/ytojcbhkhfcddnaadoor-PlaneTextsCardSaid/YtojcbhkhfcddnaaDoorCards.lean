/-
  DERIVED. GIVEN WITH THE SEED: THE CARDS: each row of YtojcbhkhfcddnaaDoorRows.lean that lists a variable, with what it lists TIED to the program's text (the seventh form; the later family's looks); each row that meets fmt, with fmt's text TOLD by the authors' own Lean function (tested against real Go, not proved from fmt's source: count such statements apart). THE CARD IS WHAT COUNTS. Prove the row's statement (the work); the ties are given (YtojcbhkhfcddnaaDoorTie.lean); close each card by the builder's one call (the guide's Derived/Test/ToyasCard.lean, 'card_holds'). Laid BY PROGRAM, IN A SANDBOX (cutbox-door.mjs). By AI agents, Wed Nov 11 2026. No macro, syntax, notation, axiom, sorry.
-/
import Derived.Test.YtojcbhkhfcddnaaDoorRows
import GoSem.ClaimSeven
namespace Go.Proofs.YtojcbhkhfcddnaaDoor
namespace Rows

/-- THE TIED CARD OF 'greenscreenlaw14.PlanePlays'. -/
def planePlaysCard : Claim7 := { stood := { row := planePlaysRow, standIns := [], harness := (true, "9c7260b332fd9bb4137048648263565e5094c93bb0680105965d1b9c36fd5407"), looks := false }, kinds := [], alts := [], laidByText := true, laidKinds := [.data, .pinned], laidTests := true, laidLooks := .later }
def PlanePlaysCardSaid : Prop := Claim7.holds Tryd.pinned (.plain (OpenSpec.ofChange planePlaysSpec)) planePlaysCard

/-- THE TIED CARD OF 'greenscreenlaw14.PlaneTexts'. -/
def planeTextsCard : Claim7 := { stood := { row := planeTextsRow, standIns := [], harness := (true, "9c7260b332fd9bb4137048648263565e5094c93bb0680105965d1b9c36fd5407"), looks := false }, kinds := [], alts := [], laidByText := true, laidKinds := [.data, .pinned], laidTests := true, laidLooks := .later }
def PlaneTextsCardSaid : Prop := Claim7.holds Tryd.pinned (.plain (OpenSpec.ofChange planeTextsSpec)) planeTextsCard

/-- THE TIED CARD OF 'greenscreenlaw14.PlaneFinds'. -/
def planeFindsCard : Claim7 := { stood := { row := planeFindsRow, standIns := [], harness := (true, "9c7260b332fd9bb4137048648263565e5094c93bb0680105965d1b9c36fd5407"), looks := false }, kinds := [], alts := [], laidByText := true, laidKinds := [.data, .pinned], laidTests := true, laidLooks := .later }
def PlaneFindsCardSaid : Prop := Claim7.holds Tryd.pinned (.plain (OpenSpec.ofChange planeFindsSpec)) planeFindsCard

/-- THE TIED CARD OF 'greenscreenlaw14.PlaneClones'. -/
def planeClonesCard : Claim7 := { stood := { row := planeClonesRow, standIns := [], harness := (true, "9c7260b332fd9bb4137048648263565e5094c93bb0680105965d1b9c36fd5407"), looks := false }, kinds := [], alts := [], laidByText := true, laidKinds := [.data, .pinned], laidTests := true, laidLooks := .later }
def PlaneClonesCardSaid : Prop := Claim7.holds Tryd.pinned (.plain (OpenSpec.ofChange planeClonesSpec)) planeClonesCard

/-- THE TIED CARD OF 'greenscreenlaw14.PlaneFills'. -/
def planeFillsCard : Claim7 := { stood := { row := planeFillsRow, standIns := [], harness := (true, "9c7260b332fd9bb4137048648263565e5094c93bb0680105965d1b9c36fd5407"), looks := false }, kinds := [], alts := [], laidByText := true, laidKinds := [.data, .pinned], laidTests := true, laidLooks := .later }
def PlaneFillsCardSaid : Prop := Claim7.holds Tryd.pinned (.plain (OpenSpec.ofChange planeFillsSpec)) planeFillsCard

/-- THE SECOND FORM's CARD OF 'greenscreenlaw14.PlanePlays'. -/
def planePlaysUptoCard : Claim7 := { stood := { row := planePlaysUptoRow, standIns := [], harness := (true, "9c7260b332fd9bb4137048648263565e5094c93bb0680105965d1b9c36fd5407"), looks := false }, kinds := [], alts := [], laidByText := true, laidKinds := [.data, .pinned], laidTests := true, laidLooks := .later }
def PlanePlaysUptoCardSaid : Prop := Claim7.holds Tryd.pinned (.plain (OpenSpec.upto planePlaysSpec)) planePlaysUptoCard

/-- THE SECOND FORM's CARD OF 'greenscreenlaw14.PlaneTexts'. -/
def planeTextsUptoCard : Claim7 := { stood := { row := planeTextsUptoRow, standIns := [], harness := (true, "9c7260b332fd9bb4137048648263565e5094c93bb0680105965d1b9c36fd5407"), looks := false }, kinds := [], alts := [], laidByText := true, laidKinds := [.data, .pinned], laidTests := true, laidLooks := .later }
def PlaneTextsUptoCardSaid : Prop := Claim7.holds Tryd.pinned (.plain (OpenSpec.upto planeTextsSpec)) planeTextsUptoCard

/-- THE SECOND FORM's CARD OF 'greenscreenlaw14.PlaneFinds'. -/
def planeFindsUptoCard : Claim7 := { stood := { row := planeFindsUptoRow, standIns := [], harness := (true, "9c7260b332fd9bb4137048648263565e5094c93bb0680105965d1b9c36fd5407"), looks := false }, kinds := [], alts := [], laidByText := true, laidKinds := [.data, .pinned], laidTests := true, laidLooks := .later }
def PlaneFindsUptoCardSaid : Prop := Claim7.holds Tryd.pinned (.plain (OpenSpec.upto planeFindsSpec)) planeFindsUptoCard

/-- THE SECOND FORM's CARD OF 'greenscreenlaw14.PlaneClones'. -/
def planeClonesUptoCard : Claim7 := { stood := { row := planeClonesUptoRow, standIns := [], harness := (true, "9c7260b332fd9bb4137048648263565e5094c93bb0680105965d1b9c36fd5407"), looks := false }, kinds := [], alts := [], laidByText := true, laidKinds := [.data, .pinned], laidTests := true, laidLooks := .later }
def PlaneClonesUptoCardSaid : Prop := Claim7.holds Tryd.pinned (.plain (OpenSpec.upto planeClonesSpec)) planeClonesUptoCard

/-- THE SECOND FORM's CARD OF 'greenscreenlaw14.PlaneFills'. -/
def planeFillsUptoCard : Claim7 := { stood := { row := planeFillsUptoRow, standIns := [], harness := (true, "9c7260b332fd9bb4137048648263565e5094c93bb0680105965d1b9c36fd5407"), looks := false }, kinds := [], alts := [], laidByText := true, laidKinds := [.data, .pinned], laidTests := true, laidLooks := .later }
def PlaneFillsUptoCardSaid : Prop := Claim7.holds Tryd.pinned (.plain (OpenSpec.upto planeFillsSpec)) planeFillsUptoCard
end Rows
end Go.Proofs.YtojcbhkhfcddnaaDoor
