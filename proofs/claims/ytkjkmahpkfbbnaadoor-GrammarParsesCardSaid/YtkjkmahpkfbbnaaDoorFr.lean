/-
  Shallow forms of what stands behind a recover. No condition.
-/
import Derived.Test.YtkjkmahpkfbbnaaDoorProg
import Derived.Test.YtkjkmahpkfbbnaaDoorRec
import Derived.KernelRfl
namespace Go.Proofs.YtkjkmahpkfbbnaaDoor
open Go Go.Sh
set_option linter.unusedVariables false
set_option maxRecDepth 100000
/-- greenscreen/grammar.caught[greenscreen/grammar.Inbound]$1, behind its recover -/
def F42r (R : Ending → World → Prop) (w : World) (a0 a1 a2 : Value) : Prop :=
  opv ((binE true .eql 20 a2 .nilIface).run Tryd.prog w) R fun t8 w =>
  cond t8 (R (.returned (.tuple #[])) w)
  (opv ((Instr.typeAssert a2 20 95 true).run Tryd.prog w) R fun t11 w =>
  opv ((Instr.extract t11 0).run Tryd.prog w) R fun t12 w =>
  opv ((Instr.extract t11 1).run Tryd.prog w) R fun t13 w =>
  opv ((Instr.alloc 95 true (.tuple #[])).run Tryd.prog w) R fun t3 w =>
  opu ((Instr.storeAt 95 t3 t12).run Tryd.prog w) R fun _ w =>
  join (upd (upd (upd (ini [a0, a1, a2]) 8 t8) 3 t3) 4 t13) (fun j1 =>
  opv ((Op.unary .not t13).run Tryd.prog w) R fun t15 w =>
  cond t15 (opv ((Instr.panic a2).run Tryd.prog w) R fun _ w =>
  j1 (upd (upd (upd (upd (ini [a0, a1, a2]) 8 t8) 3 t3) 4 t13) 15 t15) w)
  (j1 (upd (upd (upd (upd (ini [a0, a1, a2]) 8 t8) 3 t3) 4 t13) 15 t15) w)) fun e1 g1 w =>
  opv ((Instr.alloc 26 true (.tuple #[])).run Tryd.prog w) R fun t5 w =>
  drawn w fun T w =>
  qop T w (fun w K => opv ((Instr.loadAt 26 t5).run Tryd.prog w) noR K) fun t17 =>
  qop T w (fun w K => opv ((Instr.fieldAt 95 t3 0).run Tryd.prog w) noR K) fun t18 =>
  qop T w (fun w K => opv ((Instr.loadAt 27 t18).run Tryd.prog w) noR K) fun t19 =>
  ext w fun w =>
  lop T w (fun w K => opu ((Instr.storeAt 26 a0 t17).run Tryd.prog w) R K) fun _ w =>
  ext w fun w =>
  opu ((Instr.storeAt 27 a1 t19).run Tryd.prog w) R fun _ w =>
  ext w fun w =>
  R (.returned (.tuple #[])) w)
theorem F42r.eq (R : Ending → World → Prop) (w : World) (a0 a1 a2 : Value) : F42r R w a0 a1 a2 = sh Tryd.prog 20 [0,1,2,3,4,5,8,15] R (restC Tryd.f42) (kfun Tryd.prog 20 [] R) (ini [a0, a1, a2]) w := by kernel_rfl

/-- greenscreen/grammar.caught[greenscreen/grammar.screen]$1, behind its recover -/
def F46r (R : Ending → World → Prop) (w : World) (a0 a1 a2 : Value) : Prop :=
  opv ((binE true .eql 20 a2 .nilIface).run Tryd.prog w) R fun t8 w =>
  cond t8 (R (.returned (.tuple #[])) w)
  (opv ((Instr.typeAssert a2 20 95 true).run Tryd.prog w) R fun t11 w =>
  opv ((Instr.extract t11 0).run Tryd.prog w) R fun t12 w =>
  opv ((Instr.extract t11 1).run Tryd.prog w) R fun t13 w =>
  opv ((Instr.alloc 95 true (.tuple #[])).run Tryd.prog w) R fun t3 w =>
  opu ((Instr.storeAt 95 t3 t12).run Tryd.prog w) R fun _ w =>
  join (upd (upd (upd (ini [a0, a1, a2]) 8 t8) 3 t3) 4 t13) (fun j1 =>
  opv ((Op.unary .not t13).run Tryd.prog w) R fun t15 w =>
  cond t15 (opv ((Instr.panic a2).run Tryd.prog w) R fun _ w =>
  j1 (upd (upd (upd (upd (ini [a0, a1, a2]) 8 t8) 3 t3) 4 t13) 15 t15) w)
  (j1 (upd (upd (upd (upd (ini [a0, a1, a2]) 8 t8) 3 t3) 4 t13) 15 t15) w)) fun e1 g1 w =>
  opv ((Instr.alloc 69 true (.tuple #[])).run Tryd.prog w) R fun t5 w =>
  drawn w fun T w =>
  qop T w (fun w K => opv ((Instr.loadAt 69 t5).run Tryd.prog w) noR K) fun t17 =>
  qop T w (fun w K => opv ((Instr.fieldAt 95 t3 0).run Tryd.prog w) noR K) fun t18 =>
  qop T w (fun w K => opv ((Instr.loadAt 27 t18).run Tryd.prog w) noR K) fun t19 =>
  ext w fun w =>
  lop T w (fun w K => opu ((Instr.storeAt 69 a0 t17).run Tryd.prog w) R K) fun _ w =>
  ext w fun w =>
  opu ((Instr.storeAt 27 a1 t19).run Tryd.prog w) R fun _ w =>
  ext w fun w =>
  R (.returned (.tuple #[])) w)
theorem F46r.eq (R : Ending → World → Prop) (w : World) (a0 a1 a2 : Value) : F46r R w a0 a1 a2 = sh Tryd.prog 20 [0,1,2,3,4,5,8,15] R (restC Tryd.f46) (kfun Tryd.prog 20 [] R) (ini [a0, a1, a2]) w := by kernel_rfl

end Go.Proofs.YtkjkmahpkfbbnaaDoor
