/- Part of a proof. No condition but those that its theorems state. -/
import Derived.Test.YtjdoakbadehicaaGreatDoorProg
import Derived.Test.YtjdoakbadehicaaGreatDoorQa
import Derived.KernelRfl
set_option linter.unusedVariables false
set_option linter.unusedSimpArgs false
namespace Go.Proofs.YtjdoakbadehicaaGreatDoor
open Go Go.Sh
section
variable (R : Ending → World → Prop) (w : World)
set_option maxRecDepth 100000
def ZZ : Prop :=
 oD 158 #[(0, (Z.u 241)), (1, (Z.u 1)), (2, (.string ⟨#[87]⟩))] w R fun t1 w =>
 oD 158 #[(0, (Z.u 245)), (1, (Z.u 5)), (2, (.string ⟨#[69, 87]⟩))] w R fun t2 w =>
 oD 158 #[(0, (Z.u 126)), (1, (Z.u 13)), (2, (.string ⟨#[69, 87, 65]⟩))] w R fun t3 w =>
 oD 158 #[(0, (Z.u 111)), (1, (Z.u 15)), (2, (.string ⟨#[69, 65, 85]⟩))] w R fun t4 w =>
 oD 158 #[(0, (Z.u 242)), (1, (Z.u 2)), (2, (.string ⟨#[82, 66]⟩))] w R fun t5 w =>
 oD 158 #[(0, (Z.u 246)), (1, (Z.u 6)), (2, (.string ⟨#[82, 77]⟩))] w R fun t6 w =>
 oD 158 #[(0, (Z.u 110)), (1, (Z.u 14)), (2, (.string ⟨#[82, 77, 65]⟩))] w R fun t7 w =>
 oD 158 #[(0, (Z.u 243)), (1, (Z.u 17)), (2, (.string ⟨#[87, 83, 70]⟩))] w R fun t8 w =>
 bi ((Instr.buildSlice 200 8 #[(0, t1), (1, t2), (2, t3), (3, t4), (4, t5), (5, t6), (6, t7), (7, t8)]).run Tryz.prog w) R fun t9 w =>
 R (.returned t9) w
set_option maxHeartbeats 0 in
theorem ZZ.calls {R w} : ZZ R w → oX 145 #[] w R := Z.k (args := []) [0]
end
end Go.Proofs.YtjdoakbadehicaaGreatDoor
