/-
  NARROWER THAN 'FOR EVERY INPUT', by the rows' own cells (each row's printed sentence says how): PlanePlays: laid · PlaneTexts: laid · PlaneFinds: laid · PlaneClones: laid · PlaneFills: laid.
  DERIVED. THE GIVEN ROWS OF THIS SEAT. 5 by the template 'for every input the law returns true; each argument reads behind the call as it read before'; 0 by the template 'total and deterministic' (their statements: YtojcbhkhfcddnaaDoorTotals.lean).
  GIVEN WITH THE SEED: the statements are not yours to turn. If you find one false, say at which input.
  Laid BY PROGRAM, IN A SANDBOX (cutbox-rows.mjs): the forced cells as the released guide's own fill.sh prints them over the translation 61d50d9c24cb17ac… (all of the seat's roots in one cut). By AI agents, Wed Nov 11 2026. No macro, syntax, notation, axiom, sorry.
-/
import Derived.Test.YtojcbhkhfcddnaaDoorChecked
import GoSem.PinnedTables
import GoSem.Claim
import GoSem.ClaimJoined
import GoSem.ClaimMapViews
import Derived.JoinedTies
import Derived.KernelRfl
namespace Go.Proofs.YtojcbhkhfcddnaaDoor
/- THE CELL 'sum', in the pinned program and in every row, IS THE sha256 OF THE DUMP (.gsa) THAT YtojcbhkhfcddnaaDoorProg.lean LOADS. Nothing in Lean hashes anything: it is a label: what it is worth is what the hold of that sum in a sandbox is worth. -/
noncomputable def Tryd.pinned : Pinned := { name := "ytojcbhkhfcddnaadoor", sum := "61d50d9c24cb17ac85934f5e76b7cf23297c0947fcf930b0d4d45a320b639592", checked := Tryd.checked }
namespace Rows
def none {H : Type} : Left H := { results := [], args := [] }

/- WHAT THE LISTED PACKAGE-LEVEL VARIABLES READ AS WHEN THE CALL BEGINS. Each datum BY PROGRAM (the guide's laid-datum.mjs) off the statement by which the dump's own 'gosem.cut.vars' lays the variable. In a bare row this is a premise. The card (YtojcbhkhfcddnaaDoorCards.lean) ties it to the program's text. -/
def laid_unicode_utf8_acceptRanges {H : Type} : DataW H := .agg [.agg [.lit (.int .u8 128), .lit (.int .u8 191)], .agg [.lit (.int .u8 160), .lit (.int .u8 191)], .agg [.lit (.int .u8 128), .lit (.int .u8 159)], .agg [.lit (.int .u8 144), .lit (.int .u8 191)], .agg [.lit (.int .u8 128), .lit (.int .u8 143)], .agg [.lit (.int .u8 0), .lit (.int .u8 0)], .agg [.lit (.int .u8 0), .lit (.int .u8 0)], .agg [.lit (.int .u8 0), .lit (.int .u8 0)], .agg [.lit (.int .u8 0), .lit (.int .u8 0)], .agg [.lit (.int .u8 0), .lit (.int .u8 0)], .agg [.lit (.int .u8 0), .lit (.int .u8 0)], .agg [.lit (.int .u8 0), .lit (.int .u8 0)], .agg [.lit (.int .u8 0), .lit (.int .u8 0)], .agg [.lit (.int .u8 0), .lit (.int .u8 0)], .agg [.lit (.int .u8 0), .lit (.int .u8 0)], .agg [.lit (.int .u8 0), .lit (.int .u8 0)]]
/-- One of Go's own tables, pinned by name: the form's constant. -/
def laid_unicode_utf8_first : DataW Unit := Go.Pinned.utf8First

/-- 'greenscreenlaw14.PlanePlays': WHATEVER THE INPUT: true; the input reads as it did. -/
def planePlaysSpec : ChangeSpec := { name := "planePlays", fn := fun _ => fun
  | [d1, d2] => { results := [.lit (.bool true)], args := [d1, d2] }
  | _ => none }
def planePlaysRow : OpenClaim := { program := "ytojcbhkhfcddnaadoor", sum := "61d50d9c24cb17ac85934f5e76b7cf23297c0947fcf930b0d4d45a320b639592", func := "greenscreen/greenscreenlaw14.PlanePlays", spec := "planePlays", inPlace := ["internal/abi.NoEscape", "internal/bytealg.MakeNoZero"], unfollowed := true, recurses := true, named := ["unicode/utf8.first", "unicode/utf8.acceptRanges"], apart := false, laid := [("unicode/utf8.acceptRanges", laid_unicode_utf8_acceptRanges), ("unicode/utf8.first", laid_unicode_utf8_first)] }
def PlanePlaysSaid : Prop := planePlaysRow.holds Tryd.pinned (OpenSpec.ofChange planePlaysSpec)

/-- ITS FALSE NEIGHBOUR: 'it returns false'. Refute it at one input. -/
def planePlaysWrong : ChangeSpec := { name := "planePlays", fn := fun _ => fun
  | [d1, d2] => { results := [.lit (.bool false)], args := [d1, d2] }
  | _ => none }
def PlanePlaysWrongFalsely : Prop := planePlaysRow.holds Tryd.pinned (OpenSpec.ofChange planePlaysWrong)

/-- 'greenscreenlaw14.PlaneTexts': WHATEVER THE INPUT: true; the input reads as it did. -/
def planeTextsSpec : ChangeSpec := { name := "planeTexts", fn := fun _ => fun
  | [d1, d2, d3, d4, d5, d6] => { results := [.lit (.bool true)], args := [d1, d2, d3, d4, d5, d6] }
  | _ => none }
def planeTextsRow : OpenClaim := { program := "ytojcbhkhfcddnaadoor", sum := "61d50d9c24cb17ac85934f5e76b7cf23297c0947fcf930b0d4d45a320b639592", func := "greenscreen/greenscreenlaw14.PlaneTexts", spec := "planeTexts", inPlace := ["internal/abi.NoEscape", "internal/bytealg.MakeNoZero"], unfollowed := true, recurses := true, named := ["unicode/utf8.first", "unicode/utf8.acceptRanges"], apart := false, laid := [("unicode/utf8.acceptRanges", laid_unicode_utf8_acceptRanges), ("unicode/utf8.first", laid_unicode_utf8_first)] }
def PlaneTextsSaid : Prop := planeTextsRow.holds Tryd.pinned (OpenSpec.ofChange planeTextsSpec)

/-- ITS FALSE NEIGHBOUR: 'it returns false'. Refute it at one input. -/
def planeTextsWrong : ChangeSpec := { name := "planeTexts", fn := fun _ => fun
  | [d1, d2, d3, d4, d5, d6] => { results := [.lit (.bool false)], args := [d1, d2, d3, d4, d5, d6] }
  | _ => none }
def PlaneTextsWrongFalsely : Prop := planeTextsRow.holds Tryd.pinned (OpenSpec.ofChange planeTextsWrong)

/-- 'greenscreenlaw14.PlaneFinds': WHATEVER THE INPUT: true; the input reads as it did. -/
def planeFindsSpec : ChangeSpec := { name := "planeFinds", fn := fun _ => fun
  | [d1, d2, d3, d4, d5] => { results := [.lit (.bool true)], args := [d1, d2, d3, d4, d5] }
  | _ => none }
def planeFindsRow : OpenClaim := { program := "ytojcbhkhfcddnaadoor", sum := "61d50d9c24cb17ac85934f5e76b7cf23297c0947fcf930b0d4d45a320b639592", func := "greenscreen/greenscreenlaw14.PlaneFinds", spec := "planeFinds", inPlace := ["internal/abi.NoEscape", "internal/bytealg.MakeNoZero"], unfollowed := true, recurses := true, named := ["unicode/utf8.first", "unicode/utf8.acceptRanges"], apart := false, laid := [("unicode/utf8.acceptRanges", laid_unicode_utf8_acceptRanges), ("unicode/utf8.first", laid_unicode_utf8_first)] }
def PlaneFindsSaid : Prop := planeFindsRow.holds Tryd.pinned (OpenSpec.ofChange planeFindsSpec)

/-- ITS FALSE NEIGHBOUR: 'it returns false'. Refute it at one input. -/
def planeFindsWrong : ChangeSpec := { name := "planeFinds", fn := fun _ => fun
  | [d1, d2, d3, d4, d5] => { results := [.lit (.bool false)], args := [d1, d2, d3, d4, d5] }
  | _ => none }
def PlaneFindsWrongFalsely : Prop := planeFindsRow.holds Tryd.pinned (OpenSpec.ofChange planeFindsWrong)

/-- 'greenscreenlaw14.PlaneClones': WHATEVER THE INPUT: true; the input reads as it did. -/
def planeClonesSpec : ChangeSpec := { name := "planeClones", fn := fun _ => fun
  | [d1, d2, d3] => { results := [.lit (.bool true)], args := [d1, d2, d3] }
  | _ => none }
def planeClonesRow : OpenClaim := { program := "ytojcbhkhfcddnaadoor", sum := "61d50d9c24cb17ac85934f5e76b7cf23297c0947fcf930b0d4d45a320b639592", func := "greenscreen/greenscreenlaw14.PlaneClones", spec := "planeClones", inPlace := ["internal/abi.NoEscape", "internal/bytealg.MakeNoZero"], unfollowed := true, recurses := true, named := ["unicode/utf8.first", "unicode/utf8.acceptRanges"], apart := false, laid := [("unicode/utf8.acceptRanges", laid_unicode_utf8_acceptRanges), ("unicode/utf8.first", laid_unicode_utf8_first)] }
def PlaneClonesSaid : Prop := planeClonesRow.holds Tryd.pinned (OpenSpec.ofChange planeClonesSpec)

/-- ITS FALSE NEIGHBOUR: 'it returns false'. Refute it at one input. -/
def planeClonesWrong : ChangeSpec := { name := "planeClones", fn := fun _ => fun
  | [d1, d2, d3] => { results := [.lit (.bool false)], args := [d1, d2, d3] }
  | _ => none }
def PlaneClonesWrongFalsely : Prop := planeClonesRow.holds Tryd.pinned (OpenSpec.ofChange planeClonesWrong)

/-- 'greenscreenlaw14.PlaneFills': WHATEVER THE INPUT: true; the input reads as it did. -/
def planeFillsSpec : ChangeSpec := { name := "planeFills", fn := fun _ => fun
  | [d1, d2, d3, d4, d5] => { results := [.lit (.bool true)], args := [d1, d2, d3, d4, d5] }
  | _ => none }
def planeFillsRow : OpenClaim := { program := "ytojcbhkhfcddnaadoor", sum := "61d50d9c24cb17ac85934f5e76b7cf23297c0947fcf930b0d4d45a320b639592", func := "greenscreen/greenscreenlaw14.PlaneFills", spec := "planeFills", inPlace := ["internal/abi.NoEscape", "internal/bytealg.MakeNoZero"], unfollowed := true, recurses := true, named := ["unicode/utf8.first", "unicode/utf8.acceptRanges"], apart := false, laid := [("unicode/utf8.acceptRanges", laid_unicode_utf8_acceptRanges), ("unicode/utf8.first", laid_unicode_utf8_first)] }
def PlaneFillsSaid : Prop := planeFillsRow.holds Tryd.pinned (OpenSpec.ofChange planeFillsSpec)

/-- ITS FALSE NEIGHBOUR: 'it returns false'. Refute it at one input. -/
def planeFillsWrong : ChangeSpec := { name := "planeFills", fn := fun _ => fun
  | [d1, d2, d3, d4, d5] => { results := [.lit (.bool false)], args := [d1, d2, d3, d4, d5] }
  | _ => none }
def PlaneFillsWrongFalsely : Prop := planeFillsRow.holds Tryd.pinned (OpenSpec.ofChange planeFillsWrong)

/- THE SECOND FORM. 'bulk': how many values and letters a reading holds, each counted each time it is reached (what is shared counts as often as it is met; a slice's spare places count too). A statement '..UptoSaid' is the law's where the arguments, and the package variables that the reading takes, are together of bulk at most 1048576: NARROWER than '..Said'. Prove '..Said' where nothing that the law and all that it calls make is longer than what came in: it says more and counts as full. Else prove '..UptoSaid'. A law counts once. -/
mutual
def uptoBulk {H : Type} : DataW H → Nat
  | .lit (.string bytes) => bytes.length + 1
  | .lit _ => 1
  | .nil => 1
  | .ptr d => uptoBulk d + 1
  | .slice elems spare => uptoBulkAll elems + uptoBulkAll spare + 1
  | .agg parts => uptoBulkAll parts + 1
  | .iface _ d => uptoBulk d + 1
  | .map entries => uptoBulkEntries entries + 1
  | .held _ => 1
def uptoBulkAll {H : Type} : List (DataW H) → Nat
  | [] => 0
  | d :: r => uptoBulk d + uptoBulkAll r
def uptoBulkEntries {H : Type} : List (Lit × DataW H) → Nat
  | [] => 0
  | x :: r => uptoBulkEntry x + uptoBulkEntries r
def uptoBulkEntry {H : Type} : Lit × DataW H → Nat
  | (.string bytes, d) => bytes.length + uptoBulk d + 1
  | (_, d) => uptoBulk d + 1
 end
def uptoSmall : (H : Type) → List (DataW H) → Bool := fun _ ds => decide (uptoBulkAll ds ≤ 1048576)
def OpenSpec.upto (s : _root_.Go.ChangeSpec) : _root_.Go.OpenSpec := { _root_.Go.OpenSpec.ofChange s with cond := some uptoSmall }

/-- 'greenscreenlaw14.PlanePlays', WHERE WHAT IT READS IS OF BULK AT MOST 1048576: true; the input reads as it did. -/
def planePlaysUptoRow : OpenClaim := { program := "ytojcbhkhfcddnaadoor", sum := "61d50d9c24cb17ac85934f5e76b7cf23297c0947fcf930b0d4d45a320b639592", func := "greenscreen/greenscreenlaw14.PlanePlays", spec := "planePlays", inPlace := ["internal/abi.NoEscape", "internal/bytealg.MakeNoZero"], unfollowed := true, recurses := true, named := ["unicode/utf8.first", "unicode/utf8.acceptRanges"], apart := false, laid := [("unicode/utf8.acceptRanges", laid_unicode_utf8_acceptRanges), ("unicode/utf8.first", laid_unicode_utf8_first)], narrowed := true }
def PlanePlaysUptoSaid : Prop := planePlaysUptoRow.holds Tryd.pinned (OpenSpec.upto planePlaysSpec)

/-- 'greenscreenlaw14.PlaneTexts', WHERE WHAT IT READS IS OF BULK AT MOST 1048576: true; the input reads as it did. -/
def planeTextsUptoRow : OpenClaim := { program := "ytojcbhkhfcddnaadoor", sum := "61d50d9c24cb17ac85934f5e76b7cf23297c0947fcf930b0d4d45a320b639592", func := "greenscreen/greenscreenlaw14.PlaneTexts", spec := "planeTexts", inPlace := ["internal/abi.NoEscape", "internal/bytealg.MakeNoZero"], unfollowed := true, recurses := true, named := ["unicode/utf8.first", "unicode/utf8.acceptRanges"], apart := false, laid := [("unicode/utf8.acceptRanges", laid_unicode_utf8_acceptRanges), ("unicode/utf8.first", laid_unicode_utf8_first)], narrowed := true }
def PlaneTextsUptoSaid : Prop := planeTextsUptoRow.holds Tryd.pinned (OpenSpec.upto planeTextsSpec)

/-- 'greenscreenlaw14.PlaneFinds', WHERE WHAT IT READS IS OF BULK AT MOST 1048576: true; the input reads as it did. -/
def planeFindsUptoRow : OpenClaim := { program := "ytojcbhkhfcddnaadoor", sum := "61d50d9c24cb17ac85934f5e76b7cf23297c0947fcf930b0d4d45a320b639592", func := "greenscreen/greenscreenlaw14.PlaneFinds", spec := "planeFinds", inPlace := ["internal/abi.NoEscape", "internal/bytealg.MakeNoZero"], unfollowed := true, recurses := true, named := ["unicode/utf8.first", "unicode/utf8.acceptRanges"], apart := false, laid := [("unicode/utf8.acceptRanges", laid_unicode_utf8_acceptRanges), ("unicode/utf8.first", laid_unicode_utf8_first)], narrowed := true }
def PlaneFindsUptoSaid : Prop := planeFindsUptoRow.holds Tryd.pinned (OpenSpec.upto planeFindsSpec)

/-- 'greenscreenlaw14.PlaneClones', WHERE WHAT IT READS IS OF BULK AT MOST 1048576: true; the input reads as it did. -/
def planeClonesUptoRow : OpenClaim := { program := "ytojcbhkhfcddnaadoor", sum := "61d50d9c24cb17ac85934f5e76b7cf23297c0947fcf930b0d4d45a320b639592", func := "greenscreen/greenscreenlaw14.PlaneClones", spec := "planeClones", inPlace := ["internal/abi.NoEscape", "internal/bytealg.MakeNoZero"], unfollowed := true, recurses := true, named := ["unicode/utf8.first", "unicode/utf8.acceptRanges"], apart := false, laid := [("unicode/utf8.acceptRanges", laid_unicode_utf8_acceptRanges), ("unicode/utf8.first", laid_unicode_utf8_first)], narrowed := true }
def PlaneClonesUptoSaid : Prop := planeClonesUptoRow.holds Tryd.pinned (OpenSpec.upto planeClonesSpec)

/-- 'greenscreenlaw14.PlaneFills', WHERE WHAT IT READS IS OF BULK AT MOST 1048576: true; the input reads as it did. -/
def planeFillsUptoRow : OpenClaim := { program := "ytojcbhkhfcddnaadoor", sum := "61d50d9c24cb17ac85934f5e76b7cf23297c0947fcf930b0d4d45a320b639592", func := "greenscreen/greenscreenlaw14.PlaneFills", spec := "planeFills", inPlace := ["internal/abi.NoEscape", "internal/bytealg.MakeNoZero"], unfollowed := true, recurses := true, named := ["unicode/utf8.first", "unicode/utf8.acceptRanges"], apart := false, laid := [("unicode/utf8.acceptRanges", laid_unicode_utf8_acceptRanges), ("unicode/utf8.first", laid_unicode_utf8_first)], narrowed := true }
def PlaneFillsUptoSaid : Prop := planeFillsUptoRow.holds Tryd.pinned (OpenSpec.upto planeFillsSpec)

end Rows
end Go.Proofs.YtojcbhkhfcddnaaDoor
