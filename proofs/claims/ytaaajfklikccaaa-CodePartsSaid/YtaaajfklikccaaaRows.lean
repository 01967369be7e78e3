/-
  No cell of these rows narrows 'for every input' (looked for: loops, veiled, ifaces, maps, wideKeys, modest, calm, conditions, laid).
  DERIVED. THE GIVEN ROWS OF THIS SEAT. 6 by the template 'for every input the law returns true; each argument reads behind the call as it read before'; 0 by the template 'total and deterministic' (their statements: YtaaajfklikccaaaTotals.lean).
  GIVEN WITH THE SEED: the statements are not yours to turn. If you find one false, say at which input.
  Laid BY PROGRAM, IN A SANDBOX (cutbox-rows.mjs): the forced cells as the released guide's own fill.sh prints them over the translation 3a0ce816b7387053… (all of the seat's roots in one cut). By AI agents, Wed Nov 11 2026. No macro, syntax, notation, axiom, sorry.
-/
import Derived.Test.YtaaajfklikccaaaChecked
import GoSem.Claim
import GoSem.ClaimJoined
import GoSem.ClaimMapViews
import Derived.JoinedTies
import Derived.KernelRfl
namespace Go.Proofs.Ytaaajfklikccaaa
/- THE CELL 'sum', in the pinned program and in every row, IS THE sha256 OF THE DUMP (.gsa) THAT YtaaajfklikccaaaProg.lean LOADS. Nothing in Lean hashes anything: it is a label: what it is worth is what the hold of that sum in a sandbox is worth. -/
noncomputable def Try.pinned : Pinned := { name := "ytaaajfklikccaaa", sum := "3a0ce816b73870532e8e71f7c9219213a21f97587942cee0d3012c28f1a0bdf5", checked := Try.checked }
namespace Rows
def none {H : Type} : Left H := { results := [], args := [] }

/-- 'greenscreenlaw01.CodeSigns': WHATEVER THE INPUT: true; the input reads as it did. -/
def codeSignsSpec : ChangeSpec := { name := "codeSigns", fn := fun _ => fun
  | [d1, d2, d3] => { results := [.lit (.bool true)], args := [d1, d2, d3] }
  | _ => none }
def codeSignsRow : OpenClaim := { program := "ytaaajfklikccaaa", sum := "3a0ce816b73870532e8e71f7c9219213a21f97587942cee0d3012c28f1a0bdf5", func := "greenscreen/greenscreenlaw01.CodeSigns", spec := "codeSigns", inPlace := ["internal/abi.NoEscape"], apart := false }
def CodeSignsSaid : Prop := codeSignsRow.holds Try.pinned (OpenSpec.ofChange codeSignsSpec)

/-- ITS FALSE NEIGHBOUR: 'it returns false'. Refute it at one input. -/
def codeSignsWrong : ChangeSpec := { name := "codeSigns", fn := fun _ => fun
  | [d1, d2, d3] => { results := [.lit (.bool false)], args := [d1, d2, d3] }
  | _ => none }
def CodeSignsWrongFalsely : Prop := codeSignsRow.holds Try.pinned (OpenSpec.ofChange codeSignsWrong)

/-- 'greenscreenlaw01.CodeTexts': WHATEVER THE INPUT: true; the input reads as it did. -/
def codeTextsSpec : ChangeSpec := { name := "codeTexts", fn := fun _ => fun
  | [d1, d2, d3] => { results := [.lit (.bool true)], args := [d1, d2, d3] }
  | _ => none }
def codeTextsRow : OpenClaim := { program := "ytaaajfklikccaaa", sum := "3a0ce816b73870532e8e71f7c9219213a21f97587942cee0d3012c28f1a0bdf5", func := "greenscreen/greenscreenlaw01.CodeTexts", spec := "codeTexts", inPlace := ["internal/abi.NoEscape"], apart := false }
def CodeTextsSaid : Prop := codeTextsRow.holds Try.pinned (OpenSpec.ofChange codeTextsSpec)

/-- ITS FALSE NEIGHBOUR: 'it returns false'. Refute it at one input. -/
def codeTextsWrong : ChangeSpec := { name := "codeTexts", fn := fun _ => fun
  | [d1, d2, d3] => { results := [.lit (.bool false)], args := [d1, d2, d3] }
  | _ => none }
def CodeTextsWrongFalsely : Prop := codeTextsRow.holds Try.pinned (OpenSpec.ofChange codeTextsWrong)

/-- 'greenscreenlaw01.CodeTurns': WHATEVER THE INPUT: true; the input reads as it did. -/
def codeTurnsSpec : ChangeSpec := { name := "codeTurns", fn := fun _ => fun
  | [d1, d2, d3] => { results := [.lit (.bool true)], args := [d1, d2, d3] }
  | _ => none }
def codeTurnsRow : OpenClaim := { program := "ytaaajfklikccaaa", sum := "3a0ce816b73870532e8e71f7c9219213a21f97587942cee0d3012c28f1a0bdf5", func := "greenscreen/greenscreenlaw01.CodeTurns", spec := "codeTurns", inPlace := ["internal/abi.NoEscape"], apart := false }
def CodeTurnsSaid : Prop := codeTurnsRow.holds Try.pinned (OpenSpec.ofChange codeTurnsSpec)

/-- ITS FALSE NEIGHBOUR: 'it returns false'. Refute it at one input. -/
def codeTurnsWrong : ChangeSpec := { name := "codeTurns", fn := fun _ => fun
  | [d1, d2, d3] => { results := [.lit (.bool false)], args := [d1, d2, d3] }
  | _ => none }
def CodeTurnsWrongFalsely : Prop := codeTurnsRow.holds Try.pinned (OpenSpec.ofChange codeTurnsWrong)

/-- 'greenscreenlaw01.CodeBack': WHATEVER THE INPUT: true; the input reads as it did. -/
def codeBackSpec : ChangeSpec := { name := "codeBack", fn := fun _ => fun
  | [d1, d2, d3] => { results := [.lit (.bool true)], args := [d1, d2, d3] }
  | _ => none }
def codeBackRow : OpenClaim := { program := "ytaaajfklikccaaa", sum := "3a0ce816b73870532e8e71f7c9219213a21f97587942cee0d3012c28f1a0bdf5", func := "greenscreen/greenscreenlaw01.CodeBack", spec := "codeBack", inPlace := ["internal/abi.NoEscape"], apart := false }
def CodeBackSaid : Prop := codeBackRow.holds Try.pinned (OpenSpec.ofChange codeBackSpec)

/-- ITS FALSE NEIGHBOUR: 'it returns false'. Refute it at one input. -/
def codeBackWrong : ChangeSpec := { name := "codeBack", fn := fun _ => fun
  | [d1, d2, d3] => { results := [.lit (.bool false)], args := [d1, d2, d3] }
  | _ => none }
def CodeBackWrongFalsely : Prop := codeBackRow.holds Try.pinned (OpenSpec.ofChange codeBackWrong)

/-- 'greenscreenlaw01.CodeUppers': WHATEVER THE INPUT: true; the input reads as it did. -/
def codeUppersSpec : ChangeSpec := { name := "codeUppers", fn := fun _ => fun
  | [d1, d2] => { results := [.lit (.bool true)], args := [d1, d2] }
  | _ => none }
def codeUppersRow : OpenClaim := { program := "ytaaajfklikccaaa", sum := "3a0ce816b73870532e8e71f7c9219213a21f97587942cee0d3012c28f1a0bdf5", func := "greenscreen/greenscreenlaw01.CodeUppers", spec := "codeUppers", inPlace := ["internal/abi.NoEscape"], apart := false }
def CodeUppersSaid : Prop := codeUppersRow.holds Try.pinned (OpenSpec.ofChange codeUppersSpec)

/-- ITS FALSE NEIGHBOUR: 'it returns false'. Refute it at one input. -/
def codeUppersWrong : ChangeSpec := { name := "codeUppers", fn := fun _ => fun
  | [d1, d2] => { results := [.lit (.bool false)], args := [d1, d2] }
  | _ => none }
def CodeUppersWrongFalsely : Prop := codeUppersRow.holds Try.pinned (OpenSpec.ofChange codeUppersWrong)

/-- 'greenscreenlaw01.CodeParts': WHATEVER THE INPUT: true; the input reads as it did. -/
def codePartsSpec : ChangeSpec := { name := "codeParts", fn := fun _ => fun
  | [d1, d2, d3, d4, d5] => { results := [.lit (.bool true)], args := [d1, d2, d3, d4, d5] }
  | _ => none }
def codePartsRow : OpenClaim := { program := "ytaaajfklikccaaa", sum := "3a0ce816b73870532e8e71f7c9219213a21f97587942cee0d3012c28f1a0bdf5", func := "greenscreen/greenscreenlaw01.CodeParts", spec := "codeParts", inPlace := ["internal/abi.NoEscape"], apart := false }
def CodePartsSaid : Prop := codePartsRow.holds Try.pinned (OpenSpec.ofChange codePartsSpec)

/-- ITS FALSE NEIGHBOUR: 'it returns false'. Refute it at one input. -/
def codePartsWrong : ChangeSpec := { name := "codeParts", fn := fun _ => fun
  | [d1, d2, d3, d4, d5] => { results := [.lit (.bool false)], args := [d1, d2, d3, d4, d5] }
  | _ => none }
def CodePartsWrongFalsely : Prop := codePartsRow.holds Try.pinned (OpenSpec.ofChange codePartsWrong)

/- THE SECOND FORM. 'bulk': how many values and letters a reading holds, each counted each time it is reached (what is shared counts as often as it is met; a slice's spare places count too). A statement '..UptoSaid' is the law's where the arguments, and the package variables that the reading takes, are together of bulk at most 1048576: NARROWER than '..Said'. Prove '..Said' where nothing that the law and all that it calls make is longer than what came in: it says more and counts as full. Else prove '..UptoSaid'. A law counts once. -/
mutual
def uptoBulk {H : Type} : DataW H → Nat
  | .lit (.string bytes) => bytes.length + 1
  | .lit _ => 1
  | .nil => 1
  | .ptr d => uptoBulk d + 1
  | .slice elems spare => uptoBulkAll elems + uptoBulkAll spare + 1
  | .agg parts => uptoBulkAll parts + 1
  | .iface _ d => uptoBulk d + 1
  | .map entries => uptoBulkEntries entries + 1
  | .held _ => 1
def uptoBulkAll {H : Type} : List (DataW H) → Nat
  | [] => 0
  | d :: r => uptoBulk d + uptoBulkAll r
def uptoBulkEntries {H : Type} : List (Lit × DataW H) → Nat
  | [] => 0
  | x :: r => uptoBulkEntry x + uptoBulkEntries r
def uptoBulkEntry {H : Type} : Lit × DataW H → Nat
  | (.string bytes, d) => bytes.length + uptoBulk d + 1
  | (_, d) => uptoBulk d + 1
 end
def uptoSmall : (H : Type) → List (DataW H) → Bool := fun _ ds => decide (uptoBulkAll ds ≤ 1048576)
def OpenSpec.upto (s : _root_.Go.ChangeSpec) : _root_.Go.OpenSpec := { _root_.Go.OpenSpec.ofChange s with cond := some uptoSmall }

/-- 'greenscreenlaw01.CodeSigns', WHERE WHAT IT READS IS OF BULK AT MOST 1048576: true; the input reads as it did. -/
def codeSignsUptoRow : OpenClaim := { program := "ytaaajfklikccaaa", sum := "3a0ce816b73870532e8e71f7c9219213a21f97587942cee0d3012c28f1a0bdf5", func := "greenscreen/greenscreenlaw01.CodeSigns", spec := "codeSigns", inPlace := ["internal/abi.NoEscape"], apart := false, narrowed := true }
def CodeSignsUptoSaid : Prop := codeSignsUptoRow.holds Try.pinned (OpenSpec.upto codeSignsSpec)

/-- 'greenscreenlaw01.CodeTexts', WHERE WHAT IT READS IS OF BULK AT MOST 1048576: true; the input reads as it did. -/
def codeTextsUptoRow : OpenClaim := { program := "ytaaajfklikccaaa", sum := "3a0ce816b73870532e8e71f7c9219213a21f97587942cee0d3012c28f1a0bdf5", func := "greenscreen/greenscreenlaw01.CodeTexts", spec := "codeTexts", inPlace := ["internal/abi.NoEscape"], apart := false, narrowed := true }
def CodeTextsUptoSaid : Prop := codeTextsUptoRow.holds Try.pinned (OpenSpec.upto codeTextsSpec)

/-- 'greenscreenlaw01.CodeTurns', WHERE WHAT IT READS IS OF BULK AT MOST 1048576: true; the input reads as it did. -/
def codeTurnsUptoRow : OpenClaim := { program := "ytaaajfklikccaaa", sum := "3a0ce816b73870532e8e71f7c9219213a21f97587942cee0d3012c28f1a0bdf5", func := "greenscreen/greenscreenlaw01.CodeTurns", spec := "codeTurns", inPlace := ["internal/abi.NoEscape"], apart := false, narrowed := true }
def CodeTurnsUptoSaid : Prop := codeTurnsUptoRow.holds Try.pinned (OpenSpec.upto codeTurnsSpec)

/-- 'greenscreenlaw01.CodeBack', WHERE WHAT IT READS IS OF BULK AT MOST 1048576: true; the input reads as it did. -/
def codeBackUptoRow : OpenClaim := { program := "ytaaajfklikccaaa", sum := "3a0ce816b73870532e8e71f7c9219213a21f97587942cee0d3012c28f1a0bdf5", func := "greenscreen/greenscreenlaw01.CodeBack", spec := "codeBack", inPlace := ["internal/abi.NoEscape"], apart := false, narrowed := true }
def CodeBackUptoSaid : Prop := codeBackUptoRow.holds Try.pinned (OpenSpec.upto codeBackSpec)

/-- 'greenscreenlaw01.CodeUppers', WHERE WHAT IT READS IS OF BULK AT MOST 1048576: true; the input reads as it did. -/
def codeUppersUptoRow : OpenClaim := { program := "ytaaajfklikccaaa", sum := "3a0ce816b73870532e8e71f7c9219213a21f97587942cee0d3012c28f1a0bdf5", func := "greenscreen/greenscreenlaw01.CodeUppers", spec := "codeUppers", inPlace := ["internal/abi.NoEscape"], apart := false, narrowed := true }
def CodeUppersUptoSaid : Prop := codeUppersUptoRow.holds Try.pinned (OpenSpec.upto codeUppersSpec)

/-- 'greenscreenlaw01.CodeParts', WHERE WHAT IT READS IS OF BULK AT MOST 1048576: true; the input reads as it did. -/
def codePartsUptoRow : OpenClaim := { program := "ytaaajfklikccaaa", sum := "3a0ce816b73870532e8e71f7c9219213a21f97587942cee0d3012c28f1a0bdf5", func := "greenscreen/greenscreenlaw01.CodeParts", spec := "codeParts", inPlace := ["internal/abi.NoEscape"], apart := false, narrowed := true }
def CodePartsUptoSaid : Prop := codePartsUptoRow.holds Try.pinned (OpenSpec.upto codePartsSpec)

end Rows
end Go.Proofs.Ytaaajfklikccaaa
