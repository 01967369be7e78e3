/-
  NARROWER THAN 'FOR EVERY INPUT', by the rows' own cells (each row's printed sentence says how): WholeTyped: laid · WholeReads: laid · WholeMarks: laid · WholeEchoes: laid · WholeClears: laid.
  DERIVED. THE GIVEN ROWS OF THIS SEAT. 5 by the template 'for every input the law returns true; each argument reads behind the call as it read before'; 0 by the template 'total and deterministic' (their statements: YtjdoakbadehicaaGreatDoorTotals.lean).
  GIVEN WITH THE SEED: the statements are not yours to turn. If you find one false, say at which input.
  Laid BY PROGRAM, IN A SANDBOX (cutbox-rows.mjs): the forced cells as the released guide's own fill.sh prints them over the translation b2ee8d8fcb50d1ce… (all of the seat's roots in one cut). By AI agents, Wed Nov 11 2026. No macro, syntax, notation, axiom, sorry.
-/
import Derived.Test.YtjdoakbadehicaaGreatDoorChecked
import GoSem.Claim
import GoSem.ClaimJoined
import GoSem.ClaimMapViews
import Derived.JoinedTies
import Derived.KernelRfl
namespace Go.Proofs.YtjdoakbadehicaaGreatDoor
/- THE CELL 'sum', in the pinned program and in every row, IS THE sha256 OF THE DUMP (.gsa) THAT YtjdoakbadehicaaGreatDoorProg.lean LOADS. Nothing in Lean hashes anything: it is a label: what it is worth is what the hold of that sum in a sandbox is worth. -/
noncomputable def Tryz.pinned : Pinned := { name := "ytjdoakbadehicaagreatdoor", sum := "b2ee8d8fcb50d1ceb135346d6cfae23abb5822099207bf84532db070acac76f2", checked := Tryz.checked }
namespace Rows
def none {H : Type} : Left H := { results := [], args := [] }

/- WHAT THE LISTED PACKAGE-LEVEL VARIABLES READ AS WHEN THE CALL BEGINS. Each datum BY PROGRAM (the guide's laid-datum.mjs) off the statement by which the dump's own 'gosem.cut.vars' lays the variable. In a bare row this is a premise. The card (YtjdoakbadehicaaGreatDoorCards.lean) ties it to the program's text. -/
def laid_math_bits_deBruijn32tab {H : Type} : DataW H := .agg [.lit (.int .u8 0), .lit (.int .u8 1), .lit (.int .u8 28), .lit (.int .u8 2), .lit (.int .u8 29), .lit (.int .u8 14), .lit (.int .u8 24), .lit (.int .u8 3), .lit (.int .u8 30), .lit (.int .u8 22), .lit (.int .u8 20), .lit (.int .u8 15), .lit (.int .u8 25), .lit (.int .u8 17), .lit (.int .u8 4), .lit (.int .u8 8), .lit (.int .u8 31), .lit (.int .u8 27), .lit (.int .u8 13), .lit (.int .u8 23), .lit (.int .u8 21), .lit (.int .u8 19), .lit (.int .u8 16), .lit (.int .u8 7), .lit (.int .u8 26), .lit (.int .u8 12), .lit (.int .u8 18), .lit (.int .u8 6), .lit (.int .u8 11), .lit (.int .u8 5), .lit (.int .u8 10), .lit (.int .u8 9)]
def laid_math_bits_deBruijn64tab {H : Type} : DataW H := .agg [.lit (.int .u8 0), .lit (.int .u8 1), .lit (.int .u8 56), .lit (.int .u8 2), .lit (.int .u8 57), .lit (.int .u8 49), .lit (.int .u8 28), .lit (.int .u8 3), .lit (.int .u8 61), .lit (.int .u8 58), .lit (.int .u8 42), .lit (.int .u8 50), .lit (.int .u8 38), .lit (.int .u8 29), .lit (.int .u8 17), .lit (.int .u8 4), .lit (.int .u8 62), .lit (.int .u8 47), .lit (.int .u8 59), .lit (.int .u8 36), .lit (.int .u8 45), .lit (.int .u8 43), .lit (.int .u8 51), .lit (.int .u8 22), .lit (.int .u8 53), .lit (.int .u8 39), .lit (.int .u8 33), .lit (.int .u8 30), .lit (.int .u8 24), .lit (.int .u8 18), .lit (.int .u8 12), .lit (.int .u8 5), .lit (.int .u8 63), .lit (.int .u8 55), .lit (.int .u8 48), .lit (.int .u8 27), .lit (.int .u8 60), .lit (.int .u8 41), .lit (.int .u8 37), .lit (.int .u8 16), .lit (.int .u8 46), .lit (.int .u8 35), .lit (.int .u8 44), .lit (.int .u8 21), .lit (.int .u8 52), .lit (.int .u8 32), .lit (.int .u8 23), .lit (.int .u8 11), .lit (.int .u8 54), .lit (.int .u8 26), .lit (.int .u8 40), .lit (.int .u8 15), .lit (.int .u8 34), .lit (.int .u8 20), .lit (.int .u8 31), .lit (.int .u8 10), .lit (.int .u8 25), .lit (.int .u8 14), .lit (.int .u8 19), .lit (.int .u8 9), .lit (.int .u8 13), .lit (.int .u8 8), .lit (.int .u8 7), .lit (.int .u8 6)]
def laid_internal_strconv_uint64pow10 {H : Type} : DataW H := .agg [.lit (.int .u64 1), .lit (.int .u64 10), .lit (.int .u64 100), .lit (.int .u64 1000), .lit (.int .u64 10000), .lit (.int .u64 100000), .lit (.int .u64 1000000), .lit (.int .u64 10000000), .lit (.int .u64 100000000), .lit (.int .u64 1000000000), .lit (.int .u64 10000000000), .lit (.int .u64 100000000000), .lit (.int .u64 1000000000000), .lit (.int .u64 10000000000000), .lit (.int .u64 100000000000000), .lit (.int .u64 1000000000000000), .lit (.int .u64 10000000000000000), .lit (.int .u64 100000000000000000), .lit (.int .u64 1000000000000000000), .lit (.int .u64 10000000000000000000)]
def laid_greenscreen_keyboard_names {H : Type} : DataW H := .agg [.lit (.string []), .lit (.string []), .lit (.string [84, 65, 66]), .lit (.string [66, 65, 67, 75, 84, 65, 66]), .lit (.string [78, 69, 87, 76, 73, 78, 69]), .lit (.string [72, 79, 77, 69]), .lit (.string [85, 80]), .lit (.string [68, 79, 87, 78]), .lit (.string [76, 69, 70, 84]), .lit (.string [82, 73, 71, 72, 84]), .lit (.string [69, 82, 65, 83, 69, 69, 78, 68]), .lit (.string [69, 82, 65, 83, 69, 73, 78, 80, 85, 84]), .lit (.string [68, 69, 76, 69, 84, 69]), .lit (.string [73, 78, 83, 69, 82, 84]), .lit (.string [68, 85, 80]), .lit (.string [77, 65, 82, 75]), .lit (.string [82, 69, 83, 69, 84])]

/-- 'greenscreentop.WholeTyped': WHATEVER THE INPUT: true; the input reads as it did. -/
def wholeTypedSpec : ChangeSpec := { name := "wholeTyped", fn := fun _ => fun
  | [d1, d2, d3, d4] => { results := [.lit (.bool true)], args := [d1, d2, d3, d4] }
  | _ => none }
def wholeTypedRow : OpenClaim := { program := "ytjdoakbadehicaagreatdoor", sum := "b2ee8d8fcb50d1ceb135346d6cfae23abb5822099207bf84532db070acac76f2", func := "greenscreen/greenscreentop.WholeTyped", spec := "wholeTyped", inPlace := ["internal/abi.NoEscape"], unfollowed := true, recurses := true, named := ["greenscreen/keyboard.names", "internal/strconv.uint64pow10", "math/bits.deBruijn32tab", "math/bits.deBruijn64tab"], apart := false, laid := [("math/bits.deBruijn32tab", laid_math_bits_deBruijn32tab), ("math/bits.deBruijn64tab", laid_math_bits_deBruijn64tab), ("internal/strconv.uint64pow10", laid_internal_strconv_uint64pow10), ("greenscreen/keyboard.names", laid_greenscreen_keyboard_names)] }
def WholeTypedSaid : Prop := wholeTypedRow.holds Tryz.pinned (OpenSpec.ofChange wholeTypedSpec)

/-- ITS FALSE NEIGHBOUR: 'it returns false'. Refute it at one input. -/
def wholeTypedWrong : ChangeSpec := { name := "wholeTyped", fn := fun _ => fun
  | [d1, d2, d3, d4] => { results := [.lit (.bool false)], args := [d1, d2, d3, d4] }
  | _ => none }
def WholeTypedWrongFalsely : Prop := wholeTypedRow.holds Tryz.pinned (OpenSpec.ofChange wholeTypedWrong)

/-- 'greenscreentop.WholeReads': WHATEVER THE INPUT: true; the input reads as it did. -/
def wholeReadsSpec : ChangeSpec := { name := "wholeReads", fn := fun _ => fun
  | [d1, d2, d3] => { results := [.lit (.bool true)], args := [d1, d2, d3] }
  | _ => none }
def wholeReadsRow : OpenClaim := { program := "ytjdoakbadehicaagreatdoor", sum := "b2ee8d8fcb50d1ceb135346d6cfae23abb5822099207bf84532db070acac76f2", func := "greenscreen/greenscreentop.WholeReads", spec := "wholeReads", inPlace := ["internal/abi.NoEscape"], unfollowed := true, recurses := true, named := ["greenscreen/keyboard.names", "internal/strconv.uint64pow10", "math/bits.deBruijn32tab", "math/bits.deBruijn64tab"], apart := false, laid := [("math/bits.deBruijn32tab", laid_math_bits_deBruijn32tab), ("math/bits.deBruijn64tab", laid_math_bits_deBruijn64tab), ("internal/strconv.uint64pow10", laid_internal_strconv_uint64pow10), ("greenscreen/keyboard.names", laid_greenscreen_keyboard_names)] }
def WholeReadsSaid : Prop := wholeReadsRow.holds Tryz.pinned (OpenSpec.ofChange wholeReadsSpec)

/-- ITS FALSE NEIGHBOUR: 'it returns false'. Refute it at one input. -/
def wholeReadsWrong : ChangeSpec := { name := "wholeReads", fn := fun _ => fun
  | [d1, d2, d3] => { results := [.lit (.bool false)], args := [d1, d2, d3] }
  | _ => none }
def WholeReadsWrongFalsely : Prop := wholeReadsRow.holds Tryz.pinned (OpenSpec.ofChange wholeReadsWrong)

/-- 'greenscreentop.WholeMarks': WHATEVER THE INPUT: true; the input reads as it did. -/
def wholeMarksSpec : ChangeSpec := { name := "wholeMarks", fn := fun _ => fun
  | [d1, d2, d3] => { results := [.lit (.bool true)], args := [d1, d2, d3] }
  | _ => none }
def wholeMarksRow : OpenClaim := { program := "ytjdoakbadehicaagreatdoor", sum := "b2ee8d8fcb50d1ceb135346d6cfae23abb5822099207bf84532db070acac76f2", func := "greenscreen/greenscreentop.WholeMarks", spec := "wholeMarks", inPlace := ["internal/abi.NoEscape"], unfollowed := true, recurses := true, named := ["greenscreen/keyboard.names", "internal/strconv.uint64pow10", "math/bits.deBruijn32tab", "math/bits.deBruijn64tab"], apart := false, laid := [("math/bits.deBruijn32tab", laid_math_bits_deBruijn32tab), ("math/bits.deBruijn64tab", laid_math_bits_deBruijn64tab), ("internal/strconv.uint64pow10", laid_internal_strconv_uint64pow10), ("greenscreen/keyboard.names", laid_greenscreen_keyboard_names)] }
def WholeMarksSaid : Prop := wholeMarksRow.holds Tryz.pinned (OpenSpec.ofChange wholeMarksSpec)

/-- ITS FALSE NEIGHBOUR: 'it returns false'. Refute it at one input. -/
def wholeMarksWrong : ChangeSpec := { name := "wholeMarks", fn := fun _ => fun
  | [d1, d2, d3] => { results := [.lit (.bool false)], args := [d1, d2, d3] }
  | _ => none }
def WholeMarksWrongFalsely : Prop := wholeMarksRow.holds Tryz.pinned (OpenSpec.ofChange wholeMarksWrong)

/-- 'greenscreentop.WholeEchoes': WHATEVER THE INPUT: true; the input reads as it did. -/
def wholeEchoesSpec : ChangeSpec := { name := "wholeEchoes", fn := fun _ => fun
  | [d1, d2] => { results := [.lit (.bool true)], args := [d1, d2] }
  | _ => none }
def wholeEchoesRow : OpenClaim := { program := "ytjdoakbadehicaagreatdoor", sum := "b2ee8d8fcb50d1ceb135346d6cfae23abb5822099207bf84532db070acac76f2", func := "greenscreen/greenscreentop.WholeEchoes", spec := "wholeEchoes", inPlace := ["internal/abi.NoEscape"], unfollowed := true, recurses := true, named := ["greenscreen/keyboard.names", "internal/strconv.uint64pow10", "math/bits.deBruijn32tab", "math/bits.deBruijn64tab"], apart := false, laid := [("math/bits.deBruijn32tab", laid_math_bits_deBruijn32tab), ("math/bits.deBruijn64tab", laid_math_bits_deBruijn64tab), ("internal/strconv.uint64pow10", laid_internal_strconv_uint64pow10), ("greenscreen/keyboard.names", laid_greenscreen_keyboard_names)] }
def WholeEchoesSaid : Prop := wholeEchoesRow.holds Tryz.pinned (OpenSpec.ofChange wholeEchoesSpec)

/-- ITS FALSE NEIGHBOUR: 'it returns false'. Refute it at one input. -/
def wholeEchoesWrong : ChangeSpec := { name := "wholeEchoes", fn := fun _ => fun
  | [d1, d2] => { results := [.lit (.bool false)], args := [d1, d2] }
  | _ => none }
def WholeEchoesWrongFalsely : Prop := wholeEchoesRow.holds Tryz.pinned (OpenSpec.ofChange wholeEchoesWrong)

/-- 'greenscreentop.WholeClears': WHATEVER THE INPUT: true; the input reads as it did. -/
def wholeClearsSpec : ChangeSpec := { name := "wholeClears", fn := fun _ => fun
  | [d1, d2] => { results := [.lit (.bool true)], args := [d1, d2] }
  | _ => none }
def wholeClearsRow : OpenClaim := { program := "ytjdoakbadehicaagreatdoor", sum := "b2ee8d8fcb50d1ceb135346d6cfae23abb5822099207bf84532db070acac76f2", func := "greenscreen/greenscreentop.WholeClears", spec := "wholeClears", inPlace := ["internal/abi.NoEscape"], unfollowed := true, recurses := true, named := ["greenscreen/keyboard.names", "internal/strconv.uint64pow10", "math/bits.deBruijn32tab", "math/bits.deBruijn64tab"], apart := false, laid := [("math/bits.deBruijn32tab", laid_math_bits_deBruijn32tab), ("math/bits.deBruijn64tab", laid_math_bits_deBruijn64tab), ("internal/strconv.uint64pow10", laid_internal_strconv_uint64pow10), ("greenscreen/keyboard.names", laid_greenscreen_keyboard_names)] }
def WholeClearsSaid : Prop := wholeClearsRow.holds Tryz.pinned (OpenSpec.ofChange wholeClearsSpec)

/-- ITS FALSE NEIGHBOUR: 'it returns false'. Refute it at one input. -/
def wholeClearsWrong : ChangeSpec := { name := "wholeClears", fn := fun _ => fun
  | [d1, d2] => { results := [.lit (.bool false)], args := [d1, d2] }
  | _ => none }
def WholeClearsWrongFalsely : Prop := wholeClearsRow.holds Tryz.pinned (OpenSpec.ofChange wholeClearsWrong)

/- THE SECOND FORM. 'bulk': how many values and letters a reading holds, each counted each time it is reached (what is shared counts as often as it is met; a slice's spare places count too). A statement '..UptoSaid' is the law's where the arguments, and the package variables that the reading takes, are together of bulk at most 1048576: NARROWER than '..Said'. Prove '..Said' where nothing that the law and all that it calls make is longer than what came in: it says more and counts as full. Else prove '..UptoSaid'. A law counts once. -/
mutual
def uptoBulk {H : Type} : DataW H → Nat
  | .lit (.string bytes) => bytes.length + 1
  | .lit _ => 1
  | .nil => 1
  | .ptr d => uptoBulk d + 1
  | .slice elems spare => uptoBulkAll elems + uptoBulkAll spare + 1
  | .agg parts => uptoBulkAll parts + 1
  | .iface _ d => uptoBulk d + 1
  | .map entries => uptoBulkEntries entries + 1
  | .held _ => 1
def uptoBulkAll {H : Type} : List (DataW H) → Nat
  | [] => 0
  | d :: r => uptoBulk d + uptoBulkAll r
def uptoBulkEntries {H : Type} : List (Lit × DataW H) → Nat
  | [] => 0
  | x :: r => uptoBulkEntry x + uptoBulkEntries r
def uptoBulkEntry {H : Type} : Lit × DataW H → Nat
  | (.string bytes, d) => bytes.length + uptoBulk d + 1
  | (_, d) => uptoBulk d + 1
 end
def uptoSmall : (H : Type) → List (DataW H) → Bool := fun _ ds => decide (uptoBulkAll ds ≤ 1048576)
def OpenSpec.upto (s : _root_.Go.ChangeSpec) : _root_.Go.OpenSpec := { _root_.Go.OpenSpec.ofChange s with cond := some uptoSmall }

/-- 'greenscreentop.WholeTyped', WHERE WHAT IT READS IS OF BULK AT MOST 1048576: true; the input reads as it did. -/
def wholeTypedUptoRow : OpenClaim := { program := "ytjdoakbadehicaagreatdoor", sum := "b2ee8d8fcb50d1ceb135346d6cfae23abb5822099207bf84532db070acac76f2", func := "greenscreen/greenscreentop.WholeTyped", spec := "wholeTyped", inPlace := ["internal/abi.NoEscape"], unfollowed := true, recurses := true, named := ["greenscreen/keyboard.names", "internal/strconv.uint64pow10", "math/bits.deBruijn32tab", "math/bits.deBruijn64tab"], apart := false, laid := [("math/bits.deBruijn32tab", laid_math_bits_deBruijn32tab), ("math/bits.deBruijn64tab", laid_math_bits_deBruijn64tab), ("internal/strconv.uint64pow10", laid_internal_strconv_uint64pow10), ("greenscreen/keyboard.names", laid_greenscreen_keyboard_names)], narrowed := true }
def WholeTypedUptoSaid : Prop := wholeTypedUptoRow.holds Tryz.pinned (OpenSpec.upto wholeTypedSpec)

/-- 'greenscreentop.WholeReads', WHERE WHAT IT READS IS OF BULK AT MOST 1048576: true; the input reads as it did. -/
def wholeReadsUptoRow : OpenClaim := { program := "ytjdoakbadehicaagreatdoor", sum := "b2ee8d8fcb50d1ceb135346d6cfae23abb5822099207bf84532db070acac76f2", func := "greenscreen/greenscreentop.WholeReads", spec := "wholeReads", inPlace := ["internal/abi.NoEscape"], unfollowed := true, recurses := true, named := ["greenscreen/keyboard.names", "internal/strconv.uint64pow10", "math/bits.deBruijn32tab", "math/bits.deBruijn64tab"], apart := false, laid := [("math/bits.deBruijn32tab", laid_math_bits_deBruijn32tab), ("math/bits.deBruijn64tab", laid_math_bits_deBruijn64tab), ("internal/strconv.uint64pow10", laid_internal_strconv_uint64pow10), ("greenscreen/keyboard.names", laid_greenscreen_keyboard_names)], narrowed := true }
def WholeReadsUptoSaid : Prop := wholeReadsUptoRow.holds Tryz.pinned (OpenSpec.upto wholeReadsSpec)

/-- 'greenscreentop.WholeMarks', WHERE WHAT IT READS IS OF BULK AT MOST 1048576: true; the input reads as it did. -/
def wholeMarksUptoRow : OpenClaim := { program := "ytjdoakbadehicaagreatdoor", sum := "b2ee8d8fcb50d1ceb135346d6cfae23abb5822099207bf84532db070acac76f2", func := "greenscreen/greenscreentop.WholeMarks", spec := "wholeMarks", inPlace := ["internal/abi.NoEscape"], unfollowed := true, recurses := true, named := ["greenscreen/keyboard.names", "internal/strconv.uint64pow10", "math/bits.deBruijn32tab", "math/bits.deBruijn64tab"], apart := false, laid := [("math/bits.deBruijn32tab", laid_math_bits_deBruijn32tab), ("math/bits.deBruijn64tab", laid_math_bits_deBruijn64tab), ("internal/strconv.uint64pow10", laid_internal_strconv_uint64pow10), ("greenscreen/keyboard.names", laid_greenscreen_keyboard_names)], narrowed := true }
def WholeMarksUptoSaid : Prop := wholeMarksUptoRow.holds Tryz.pinned (OpenSpec.upto wholeMarksSpec)

/-- 'greenscreentop.WholeEchoes', WHERE WHAT IT READS IS OF BULK AT MOST 1048576: true; the input reads as it did. -/
def wholeEchoesUptoRow : OpenClaim := { program := "ytjdoakbadehicaagreatdoor", sum := "b2ee8d8fcb50d1ceb135346d6cfae23abb5822099207bf84532db070acac76f2", func := "greenscreen/greenscreentop.WholeEchoes", spec := "wholeEchoes", inPlace := ["internal/abi.NoEscape"], unfollowed := true, recurses := true, named := ["greenscreen/keyboard.names", "internal/strconv.uint64pow10", "math/bits.deBruijn32tab", "math/bits.deBruijn64tab"], apart := false, laid := [("math/bits.deBruijn32tab", laid_math_bits_deBruijn32tab), ("math/bits.deBruijn64tab", laid_math_bits_deBruijn64tab), ("internal/strconv.uint64pow10", laid_internal_strconv_uint64pow10), ("greenscreen/keyboard.names", laid_greenscreen_keyboard_names)], narrowed := true }
def WholeEchoesUptoSaid : Prop := wholeEchoesUptoRow.holds Tryz.pinned (OpenSpec.upto wholeEchoesSpec)

/-- 'greenscreentop.WholeClears', WHERE WHAT IT READS IS OF BULK AT MOST 1048576: true; the input reads as it did. -/
def wholeClearsUptoRow : OpenClaim := { program := "ytjdoakbadehicaagreatdoor", sum := "b2ee8d8fcb50d1ceb135346d6cfae23abb5822099207bf84532db070acac76f2", func := "greenscreen/greenscreentop.WholeClears", spec := "wholeClears", inPlace := ["internal/abi.NoEscape"], unfollowed := true, recurses := true, named := ["greenscreen/keyboard.names", "internal/strconv.uint64pow10", "math/bits.deBruijn32tab", "math/bits.deBruijn64tab"], apart := false, laid := [("math/bits.deBruijn32tab", laid_math_bits_deBruijn32tab), ("math/bits.deBruijn64tab", laid_math_bits_deBruijn64tab), ("internal/strconv.uint64pow10", laid_internal_strconv_uint64pow10), ("greenscreen/keyboard.names", laid_greenscreen_keyboard_names)], narrowed := true }
def WholeClearsUptoSaid : Prop := wholeClearsUptoRow.holds Tryz.pinned (OpenSpec.upto wholeClearsSpec)

end Rows
end Go.Proofs.YtjdoakbadehicaaGreatDoor
