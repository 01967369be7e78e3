/-
  Contracts of functions of the program, walked over their shallow forms. No condition but the ones that each states.
-/
import Derived.Test.YtojcbhkhfcddnaaFm0
namespace Go.Proofs.Ytojcbhkhfcddnaa
open Go Go.Sh
set_option linter.unusedVariables false
set_option maxRecDepth 100000

theorem c_FieldMarks {r c : Int} {A : Option Addr} {n cp : Nat} {cs : List Gs.Cell} {w : World} (rd1 : Rd w A (rows Gs.cv cs)) (hn : n = cs.length) (hnm : n ≤ 9223372036854775807){A2 : Option Addr} {n2 cp2 : Nat} {ms : List Int} (rd2 : Rd w A2 (vals .i64 ms)) (hn2 : n2 = ms.length) (hcw : Gs.Cws cs) :
    Calls Try.prog 7 #[.agg #[.int .i64 r, .int .i64 c], .slice A n cp, .slice A2 n2 cp2] w fun e w' => e = .returned (.bool true) ∧ Upd no w w' := by
  by_cases hz : Gs.cellsN r c = 0
  · exact c_FieldMarks_0 (N := 0) rd1 hn hnm rd2 hn2 hz
  · obtain ⟨N, hN⟩ := Int.eq_ofNat_of_zero_le (Gs.cells_bd r c).1
    by_cases h2 : N ≤ 120
    · exact c_FieldMarks_ok rd1 hn hnm rd2 hn2 hcw hN (by omega) h2
    · exact c_FieldMarks_big rd1 hn hnm rd2 hn2 hN (by omega)


end Go.Proofs.Ytojcbhkhfcddnaa
