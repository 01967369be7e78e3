/-
  Contracts of functions of the program, walked over their shallow forms. No condition but the ones that each states.
-/
import Derived.Test.YtojcbhkhfcddnaaDoorPl
namespace Go.Proofs.YtojcbhkhfcddnaaDoor
open Go Go.Sh
set_option linter.unusedVariables false
set_option maxRecDepth 100000

theorem c_PlaneFills {r c : Int} {A : Option Addr} {n cp : Nat} {cs : List Gs.Cell} {w : World} (rd1 : Rd w A (rows Gs.cv cs)) (hn : n = cs.length) (hnm : n ≤ 9223372036854775807){i j : Int} {x : Gs.Cell} (hcw : Gs.Cws cs) :
    Calls Tryd.prog 7 #[.agg #[.int .i64 r, .int .i64 c], .slice A n cp, .int .i64 i, .int .i64 j, .agg (Gs.cv x).toArray] w fun e w' => e = .returned (.bool true) ∧ Upd no w w' := by
  by_cases hz : Gs.cellsN r c = 0
  · exact c_PlaneFills_0 (N := 0) rd1 hn hnm hz
  · obtain ⟨N, hN⟩ := Int.eq_ofNat_of_zero_le (Gs.cells_bd r c).1
    by_cases h2 : N ≤ 200
    · exact c_PlaneFills_ok rd1 hn hnm hcw hN (by omega) h2
    · exact c_PlaneFills_big rd1 hn hnm hN (by omega)
theorem c_PlaneClones {r c : Int} {A : Option Addr} {n cp : Nat} {cs : List Gs.Cell} {w : World} (rd1 : Rd w A (rows Gs.cv cs)) (hn : n = cs.length) (hnm : n ≤ 9223372036854775807){A2 : Option Addr} {n2 cp2 : Nat} {os : List Gs.Opn} (rd2 : Rd w A2 (rows Gs.ov os)) (hn2 : n2 = os.length) (hn2m : n2 ≤ 9223372036854775807) (hcw : Gs.Cws cs) :
    Calls Tryd.prog 6 #[.agg #[.int .i64 r, .int .i64 c], .slice A n cp, .slice A2 n2 cp2] w fun e w' => e = .returned (.bool true) ∧ Upd no w w' := by
  by_cases hz : Gs.cellsN r c = 0
  · exact c_PlaneClones_0 (N := 0) rd1 hn hnm rd2 hn2 hn2m hz
  · obtain ⟨N, hN⟩ := Int.eq_ofNat_of_zero_le (Gs.cells_bd r c).1
    by_cases h2 : N ≤ 200
    · exact c_PlaneClones_ok rd1 hn hnm rd2 hn2 hn2m hcw hN (by omega) h2
    · exact c_PlaneClones_big rd1 hn hnm rd2 hn2 hn2m hN (by omega)
theorem c_PlaneFinds {r c : Int} {A : Option Addr} {n cp : Nat} {cs : List Gs.Cell} {w : World} (rd1 : Rd w A (rows Gs.cv cs)) (hn : n = cs.length) (hnm : n ≤ 9223372036854775807){page i j : Int} (hcw : Gs.Cws cs) :
    Calls Tryd.prog 5 #[.agg #[.int .i64 r, .int .i64 c], .slice A n cp, .int .i64 page, .int .i64 i, .int .i64 j] w fun e w' => e = .returned (.bool true) ∧ Upd no w w' := by
  by_cases hz : Gs.cellsN r c = 0
  · exact c_PlaneFinds_0 (N := 0) rd1 hn hnm hz
  · obtain ⟨N, hN⟩ := Int.eq_ofNat_of_zero_le (Gs.cells_bd r c).1
    by_cases h2 : N ≤ 200
    · exact c_PlaneFinds_ok rd1 hn hnm hcw hN (by omega) h2
    · exact c_PlaneFinds_big rd1 hn hnm hN (by omega)
theorem c_PlanePlays {r c : Int} {A2 : Option Addr} {n2 cp2 : Nat} {os : List Gs.Opn} {w : World} (rd2 : Rd w A2 (rows Gs.ov os)) (hn2 : n2 = os.length) (hn2m : n2 ≤ 9223372036854775807) (how : ∀ o ∈ os, Gs.Ow o) :
    Calls Tryd.prog 3 #[.agg #[.int .i64 r, .int .i64 c], .slice A2 n2 cp2] w fun e w' => e = .returned (.bool true) ∧ Upd no w w' := by
  by_cases hz : Gs.cellsN r c = 0
  · exact c_PlanePlays_0 (N := 0) rd2 hn2 hn2m hz
  · obtain ⟨N, hN⟩ := Int.eq_ofNat_of_zero_le (Gs.cells_bd r c).1
    exact c_PlanePlays_ok rd2 hn2 hn2m how hN (by omega)


end Go.Proofs.YtojcbhkhfcddnaaDoor
