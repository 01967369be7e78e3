/-
  Contracts of functions of the program, walked over their shallow forms. No condition but the ones that each states.
-/
import Derived.Test.YtojcbhkhfcddnaaFo0
namespace Go.Proofs.Ytojcbhkhfcddnaa
open Go Go.Sh
set_option linter.unusedVariables false
set_option maxRecDepth 100000

theorem c_FieldParts {r c : Int} {A : Option Addr} {n cp : Nat} {cs : List Gs.Cell} {w : World} (rd1 : Rd w A (rows Gs.cv cs)) (hn : n = cs.length) (hnm : n ≤ 9223372036854775807) (hcw : Gs.Cws cs) :
    Calls Try.prog 4 #[.agg #[.int .i64 r, .int .i64 c], .slice A n cp] w fun e w' => e = .returned (.bool true) ∧ Upd no w w' := by
  by_cases hz : Gs.cellsN r c = 0
  · exact c_FieldParts_0 (N := 0) rd1 hn hnm hz
  · obtain ⟨N, hN⟩ := Int.eq_ofNat_of_zero_le (Gs.cells_bd r c).1
    by_cases h2 : N ≤ 120
    · exact c_FieldParts_ok rd1 hn hnm hcw hN (by omega) h2
    · exact c_FieldParts_big rd1 hn hnm hN (by omega)


end Go.Proofs.Ytojcbhkhfcddnaa
