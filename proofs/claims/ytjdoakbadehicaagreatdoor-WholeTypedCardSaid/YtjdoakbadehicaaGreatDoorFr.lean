/-
  Shallow forms of functions of the loaded program, each tied to it. No condition.
-/
import Derived.Test.YtjdoakbadehicaaGreatDoorProg
import Derived.Test.YtjdoakbadehicaaGreatDoorShSound
import Derived.KernelRfl
import Derived.Test.YtjdoakbadehicaaGreatDoorRec
namespace Go.Proofs.YtjdoakbadehicaaGreatDoor
open Go Go.Sh
set_option linter.unusedVariables false
set_option maxRecDepth 100000
/-- greenscreen/grammar.caught[greenscreen/grammar.Inbound]$1, behind its recover -/
def F94r (R : Ending → World → Prop) (w : World) (a0 a1 a2 : Value) : Prop :=
  opv ((binE true .eql 20 a2 .nilIface).run Tryz.prog w) R fun t8 w =>
  cond t8 (R (.returned (.tuple #[])) w)
  (opv ((Instr.typeAssert a2 20 149 true).run Tryz.prog w) R fun t11 w =>
  opv ((Instr.extract t11 0).run Tryz.prog w) R fun t12 w =>
  opv ((Instr.extract t11 1).run Tryz.prog w) R fun t13 w =>
  opv ((Instr.alloc 149 true (.tuple #[])).run Tryz.prog w) R fun t3 w =>
  opu ((Instr.storeAt 149 t3 t12).run Tryz.prog w) R fun _ w =>
  join (upd (upd (upd (ini [a0, a1, a2]) 8 t8) 3 t3) 4 t13) (fun j1 =>
  opv ((Op.unary .not t13).run Tryz.prog w) R fun t15 w =>
  cond t15 (opv ((Instr.panic a2).run Tryz.prog w) R fun _ w =>
  j1 (upd (upd (upd (upd (ini [a0, a1, a2]) 8 t8) 3 t3) 4 t13) 15 t15) w)
  (j1 (upd (upd (upd (upd (ini [a0, a1, a2]) 8 t8) 3 t3) 4 t13) 15 t15) w)) fun e1 g1 w =>
  opv ((Instr.alloc 48 true (.tuple #[])).run Tryz.prog w) R fun t5 w =>
  drawn w fun T w =>
  qop T w (fun w K => opv ((Instr.loadAt 48 t5).run Tryz.prog w) noR K) fun t17 =>
  qop T w (fun w K => opv ((Instr.fieldAt 149 t3 0).run Tryz.prog w) noR K) fun t18 =>
  qop T w (fun w K => opv ((Instr.loadAt 25 t18).run Tryz.prog w) noR K) fun t19 =>
  ext w fun w =>
  lop T w (fun w K => opu ((Instr.storeAt 48 a0 t17).run Tryz.prog w) R K) fun _ w =>
  ext w fun w =>
  opu ((Instr.storeAt 25 a1 t19).run Tryz.prog w) R fun _ w =>
  ext w fun w =>
  R (.returned (.tuple #[])) w)
theorem F94r.eq (R : Ending → World → Prop) (w : World) (a0 a1 a2 : Value) : F94r R w a0 a1 a2 = sh Tryz.prog 20 [0,1,2,3,4,5,8,15] none R (restC Tryz.f94) (kfun Tryz.prog 20 [] R) (ini [a0, a1, a2]) w := by kernel_rfl

end Go.Proofs.YtjdoakbadehicaaGreatDoor
