/-
  No cell of these rows narrows 'for every input' (looked for: loops, veiled, ifaces, maps, wideKeys, modest, calm, conditions, laid).
  DERIVED. THE GIVEN ROWS OF THIS SEAT. 5 by the template 'for every input the law returns true; each argument reads behind the call as it read before'; 0 by the template 'total and deterministic' (their statements: YtojcbhkhfcddnaaTotals.lean).
  GIVEN WITH THE SEED: the statements are not yours to turn. If you find one false, say at which input.
  Laid BY PROGRAM, IN A SANDBOX (cutbox-rows.mjs): the forced cells as the released guide's own fill.sh prints them over the translation 947ebe111b8fca86… (all of the seat's roots in one cut). By AI agents, Wed Nov 11 2026. No macro, syntax, notation, axiom, sorry.
-/
import Derived.Test.YtojcbhkhfcddnaaChecked
import GoSem.Claim
import GoSem.ClaimJoined
import GoSem.ClaimMapViews
import Derived.JoinedTies
import Derived.KernelRfl
namespace Go.Proofs.Ytojcbhkhfcddnaa
/- THE CELL 'sum', in the pinned program and in every row, IS THE sha256 OF THE DUMP (.gsa) THAT YtojcbhkhfcddnaaProg.lean LOADS. Nothing in Lean hashes anything: it is a label: what it is worth is what the hold of that sum in a sandbox is worth. -/
noncomputable def Try.pinned : Pinned := { name := "ytojcbhkhfcddnaa", sum := "947ebe111b8fca86f1576db619bc313c955aee2b847b83a0e135735a389dc556", checked := Try.checked }
namespace Rows
def none {H : Type} : Left H := { results := [], args := [] }

/-- 'greenscreenlaw15.FieldLooks': WHATEVER THE INPUT: true; the input reads as it did. -/
def fieldLooksSpec : ChangeSpec := { name := "fieldLooks", fn := fun _ => fun
  | [d1, d2, d3, d4, d5] => { results := [.lit (.bool true)], args := [d1, d2, d3, d4, d5] }
  | _ => none }
def fieldLooksRow : OpenClaim := { program := "ytojcbhkhfcddnaa", sum := "947ebe111b8fca86f1576db619bc313c955aee2b847b83a0e135735a389dc556", func := "greenscreen/greenscreenlaw15.FieldLooks", spec := "fieldLooks", inPlace := ["internal/abi.NoEscape", "internal/bytealg.MakeNoZero"], unfollowed := true, recurses := true, apart := false }
def FieldLooksSaid : Prop := fieldLooksRow.holds Try.pinned (OpenSpec.ofChange fieldLooksSpec)

/-- ITS FALSE NEIGHBOUR: 'it returns false'. Refute it at one input. -/
def fieldLooksWrong : ChangeSpec := { name := "fieldLooks", fn := fun _ => fun
  | [d1, d2, d3, d4, d5] => { results := [.lit (.bool false)], args := [d1, d2, d3, d4, d5] }
  | _ => none }
def FieldLooksWrongFalsely : Prop := fieldLooksRow.holds Try.pinned (OpenSpec.ofChange fieldLooksWrong)

/-- 'greenscreenlaw15.FieldParts': WHATEVER THE INPUT: true; the input reads as it did. -/
def fieldPartsSpec : ChangeSpec := { name := "fieldParts", fn := fun _ => fun
  | [d1, d2] => { results := [.lit (.bool true)], args := [d1, d2] }
  | _ => none }
def fieldPartsRow : OpenClaim := { program := "ytojcbhkhfcddnaa", sum := "947ebe111b8fca86f1576db619bc313c955aee2b847b83a0e135735a389dc556", func := "greenscreen/greenscreenlaw15.FieldParts", spec := "fieldParts", inPlace := ["internal/abi.NoEscape", "internal/bytealg.MakeNoZero"], unfollowed := true, recurses := true, apart := false }
def FieldPartsSaid : Prop := fieldPartsRow.holds Try.pinned (OpenSpec.ofChange fieldPartsSpec)

/-- ITS FALSE NEIGHBOUR: 'it returns false'. Refute it at one input. -/
def fieldPartsWrong : ChangeSpec := { name := "fieldParts", fn := fun _ => fun
  | [d1, d2] => { results := [.lit (.bool false)], args := [d1, d2] }
  | _ => none }
def FieldPartsWrongFalsely : Prop := fieldPartsRow.holds Try.pinned (OpenSpec.ofChange fieldPartsWrong)

/-- 'greenscreenlaw15.FieldWalks': WHATEVER THE INPUT: true; the input reads as it did. -/
def fieldWalksSpec : ChangeSpec := { name := "fieldWalks", fn := fun _ => fun
  | [d1, d2, d3] => { results := [.lit (.bool true)], args := [d1, d2, d3] }
  | _ => none }
def fieldWalksRow : OpenClaim := { program := "ytojcbhkhfcddnaa", sum := "947ebe111b8fca86f1576db619bc313c955aee2b847b83a0e135735a389dc556", func := "greenscreen/greenscreenlaw15.FieldWalks", spec := "fieldWalks", inPlace := ["internal/abi.NoEscape", "internal/bytealg.MakeNoZero"], unfollowed := true, recurses := true, apart := false }
def FieldWalksSaid : Prop := fieldWalksRow.holds Try.pinned (OpenSpec.ofChange fieldWalksSpec)

/-- ITS FALSE NEIGHBOUR: 'it returns false'. Refute it at one input. -/
def fieldWalksWrong : ChangeSpec := { name := "fieldWalks", fn := fun _ => fun
  | [d1, d2, d3] => { results := [.lit (.bool false)], args := [d1, d2, d3] }
  | _ => none }
def FieldWalksWrongFalsely : Prop := fieldWalksRow.holds Try.pinned (OpenSpec.ofChange fieldWalksWrong)

/-- 'greenscreenlaw15.FieldTexts': WHATEVER THE INPUT: true; the input reads as it did. -/
def fieldTextsSpec : ChangeSpec := { name := "fieldTexts", fn := fun _ => fun
  | [d1, d2, d3] => { results := [.lit (.bool true)], args := [d1, d2, d3] }
  | _ => none }
def fieldTextsRow : OpenClaim := { program := "ytojcbhkhfcddnaa", sum := "947ebe111b8fca86f1576db619bc313c955aee2b847b83a0e135735a389dc556", func := "greenscreen/greenscreenlaw15.FieldTexts", spec := "fieldTexts", inPlace := ["internal/abi.NoEscape", "internal/bytealg.MakeNoZero"], unfollowed := true, recurses := true, apart := false }
def FieldTextsSaid : Prop := fieldTextsRow.holds Try.pinned (OpenSpec.ofChange fieldTextsSpec)

/-- ITS FALSE NEIGHBOUR: 'it returns false'. Refute it at one input. -/
def fieldTextsWrong : ChangeSpec := { name := "fieldTexts", fn := fun _ => fun
  | [d1, d2, d3] => { results := [.lit (.bool false)], args := [d1, d2, d3] }
  | _ => none }
def FieldTextsWrongFalsely : Prop := fieldTextsRow.holds Try.pinned (OpenSpec.ofChange fieldTextsWrong)

/-- 'greenscreenlaw15.FieldMarks': WHATEVER THE INPUT: true; the input reads as it did. -/
def fieldMarksSpec : ChangeSpec := { name := "fieldMarks", fn := fun _ => fun
  | [d1, d2, d3] => { results := [.lit (.bool true)], args := [d1, d2, d3] }
  | _ => none }
def fieldMarksRow : OpenClaim := { program := "ytojcbhkhfcddnaa", sum := "947ebe111b8fca86f1576db619bc313c955aee2b847b83a0e135735a389dc556", func := "greenscreen/greenscreenlaw15.FieldMarks", spec := "fieldMarks", inPlace := ["internal/abi.NoEscape", "internal/bytealg.MakeNoZero"], unfollowed := true, recurses := true, apart := false }
def FieldMarksSaid : Prop := fieldMarksRow.holds Try.pinned (OpenSpec.ofChange fieldMarksSpec)

/-- ITS FALSE NEIGHBOUR: 'it returns false'. Refute it at one input. -/
def fieldMarksWrong : ChangeSpec := { name := "fieldMarks", fn := fun _ => fun
  | [d1, d2, d3] => { results := [.lit (.bool false)], args := [d1, d2, d3] }
  | _ => none }
def FieldMarksWrongFalsely : Prop := fieldMarksRow.holds Try.pinned (OpenSpec.ofChange fieldMarksWrong)

/- THE SECOND FORM. 'bulk': how many values and letters a reading holds, each counted each time it is reached (what is shared counts as often as it is met; a slice's spare places count too). A statement '..UptoSaid' is the law's where the arguments, and the package variables that the reading takes, are together of bulk at most 1048576: NARROWER than '..Said'. Prove '..Said' where nothing that the law and all that it calls make is longer than what came in: it says more and counts as full. Else prove '..UptoSaid'. A law counts once. -/
mutual
def uptoBulk {H : Type} : DataW H → Nat
  | .lit (.string bytes) => bytes.length + 1
  | .lit _ => 1
  | .nil => 1
  | .ptr d => uptoBulk d + 1
  | .slice elems spare => uptoBulkAll elems + uptoBulkAll spare + 1
  | .agg parts => uptoBulkAll parts + 1
  | .iface _ d => uptoBulk d + 1
  | .map entries => uptoBulkEntries entries + 1
  | .held _ => 1
def uptoBulkAll {H : Type} : List (DataW H) → Nat
  | [] => 0
  | d :: r => uptoBulk d + uptoBulkAll r
def uptoBulkEntries {H : Type} : List (Lit × DataW H) → Nat
  | [] => 0
  | x :: r => uptoBulkEntry x + uptoBulkEntries r
def uptoBulkEntry {H : Type} : Lit × DataW H → Nat
  | (.string bytes, d) => bytes.length + uptoBulk d + 1
  | (_, d) => uptoBulk d + 1
 end
def uptoSmall : (H : Type) → List (DataW H) → Bool := fun _ ds => decide (uptoBulkAll ds ≤ 1048576)
def OpenSpec.upto (s : _root_.Go.ChangeSpec) : _root_.Go.OpenSpec := { _root_.Go.OpenSpec.ofChange s with cond := some uptoSmall }

/-- 'greenscreenlaw15.FieldLooks', WHERE WHAT IT READS IS OF BULK AT MOST 1048576: true; the input reads as it did. -/
def fieldLooksUptoRow : OpenClaim := { program := "ytojcbhkhfcddnaa", sum := "947ebe111b8fca86f1576db619bc313c955aee2b847b83a0e135735a389dc556", func := "greenscreen/greenscreenlaw15.FieldLooks", spec := "fieldLooks", inPlace := ["internal/abi.NoEscape", "internal/bytealg.MakeNoZero"], unfollowed := true, recurses := true, apart := false, narrowed := true }
def FieldLooksUptoSaid : Prop := fieldLooksUptoRow.holds Try.pinned (OpenSpec.upto fieldLooksSpec)

/-- 'greenscreenlaw15.FieldParts', WHERE WHAT IT READS IS OF BULK AT MOST 1048576: true; the input reads as it did. -/
def fieldPartsUptoRow : OpenClaim := { program := "ytojcbhkhfcddnaa", sum := "947ebe111b8fca86f1576db619bc313c955aee2b847b83a0e135735a389dc556", func := "greenscreen/greenscreenlaw15.FieldParts", spec := "fieldParts", inPlace := ["internal/abi.NoEscape", "internal/bytealg.MakeNoZero"], unfollowed := true, recurses := true, apart := false, narrowed := true }
def FieldPartsUptoSaid : Prop := fieldPartsUptoRow.holds Try.pinned (OpenSpec.upto fieldPartsSpec)

/-- 'greenscreenlaw15.FieldWalks', WHERE WHAT IT READS IS OF BULK AT MOST 1048576: true; the input reads as it did. -/
def fieldWalksUptoRow : OpenClaim := { program := "ytojcbhkhfcddnaa", sum := "947ebe111b8fca86f1576db619bc313c955aee2b847b83a0e135735a389dc556", func := "greenscreen/greenscreenlaw15.FieldWalks", spec := "fieldWalks", inPlace := ["internal/abi.NoEscape", "internal/bytealg.MakeNoZero"], unfollowed := true, recurses := true, apart := false, narrowed := true }
def FieldWalksUptoSaid : Prop := fieldWalksUptoRow.holds Try.pinned (OpenSpec.upto fieldWalksSpec)

/-- 'greenscreenlaw15.FieldTexts', WHERE WHAT IT READS IS OF BULK AT MOST 1048576: true; the input reads as it did. -/
def fieldTextsUptoRow : OpenClaim := { program := "ytojcbhkhfcddnaa", sum := "947ebe111b8fca86f1576db619bc313c955aee2b847b83a0e135735a389dc556", func := "greenscreen/greenscreenlaw15.FieldTexts", spec := "fieldTexts", inPlace := ["internal/abi.NoEscape", "internal/bytealg.MakeNoZero"], unfollowed := true, recurses := true, apart := false, narrowed := true }
def FieldTextsUptoSaid : Prop := fieldTextsUptoRow.holds Try.pinned (OpenSpec.upto fieldTextsSpec)

/-- 'greenscreenlaw15.FieldMarks', WHERE WHAT IT READS IS OF BULK AT MOST 1048576: true; the input reads as it did. -/
def fieldMarksUptoRow : OpenClaim := { program := "ytojcbhkhfcddnaa", sum := "947ebe111b8fca86f1576db619bc313c955aee2b847b83a0e135735a389dc556", func := "greenscreen/greenscreenlaw15.FieldMarks", spec := "fieldMarks", inPlace := ["internal/abi.NoEscape", "internal/bytealg.MakeNoZero"], unfollowed := true, recurses := true, apart := false, narrowed := true }
def FieldMarksUptoSaid : Prop := fieldMarksUptoRow.holds Try.pinned (OpenSpec.upto fieldMarksSpec)

end Rows
end Go.Proofs.Ytojcbhkhfcddnaa
