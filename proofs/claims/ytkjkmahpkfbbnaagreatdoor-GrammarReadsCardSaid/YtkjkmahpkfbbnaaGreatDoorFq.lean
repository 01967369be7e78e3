/-
  Shallow forms of functions of the loaded program, each tied to it. No condition.
-/
import Derived.Test.YtkjkmahpkfbbnaaGreatDoorProg
import Derived.Test.YtkjkmahpkfbbnaaGreatDoorShSound
import Derived.KernelRfl
namespace Go.Proofs.YtkjkmahpkfbbnaaGreatDoor
open Go Go.Sh
set_option linter.unusedVariables false
set_option maxRecDepth 100000
/-- (*strings.Builder).WriteString -/
def F42 (R : Ending → World → Prop) (w : World) (a0 a1 : Value) : Prop :=
  callF Tryz.prog 67 #[a0] w R fun t7 w =>
  nilck a0 w fun t10 w =>
  opv ((Instr.fieldAt 90 t10 1).run Tryz.prog w) R fun t11 w =>
  opv ((Instr.loadAt 43 t11).run Tryz.prog w) R fun t12 w =>
  opv ((Builtin.append_ #[43, 9] 43 #[t12, a1]).run Tryz.prog w) R fun t14 w =>
  nilck a0 w fun t15 w =>
  opv ((Instr.fieldAt 90 t15 1).run Tryz.prog w) R fun t16 w =>
  opu ((Instr.storeAt 43 t16 t14).run Tryz.prog w) R fun _ w =>
  opv ((Builtin.len_ #[9] 3 #[a1]).run Tryz.prog w) R fun t18 w =>
  R (.returned (.tuple #[t18, .nilIface])) w
theorem F42.eq (R : Ending → World → Prop) (w : World) (a0 a1 : Value) : F42 R w a0 a1 = shF Tryz.prog 42 [0,1,4,5] [a0, a1] R w := by kernel_rfl
theorem F42.calls {R : Ending → World → Prop} {w : World} {a0 a1 : Value} (h : F42 R w a0 a1) : Calls Tryz.prog 42 #[a0, a1] w R := shF_sound (F42.eq R w a0 a1 ▸ h)

/-- (*strings.Builder).String -/
def F45 (R : Ending → World → Prop) (w : World) (a0 : Value) : Prop :=
  drawn w fun T w =>
  qop T w (fun w K => nilck a0 w K) fun t4 =>
  qop T w (fun w K => opv ((Instr.fieldAt 90 t4 1).run Tryz.prog w) noR K) fun t5 =>
  qop T w (fun w K => opv ((Instr.loadAt 43 t5).run Tryz.prog w) noR K) fun t6 =>
  qop T w (fun w K => nilck a0 w K) fun t9 =>
  qop T w (fun w K => opv ((Instr.fieldAt 90 t9 1).run Tryz.prog w) noR K) fun t10 =>
  qop T w (fun w K => opv ((Instr.loadAt 43 t10).run Tryz.prog w) noR K) fun t11 =>
  qop T w (fun w K => opv ((Builtin.len_ #[43] 3 #[t11]).run Tryz.prog w) noR K) fun t12 =>
  ext w fun w =>
  lop T w (fun w K => opv ((Builtin.unsafeSliceData_ #[43] 121 #[t6]).run Tryz.prog w) R K) fun t7 w =>
  ext w fun w =>
  lop T w (fun w K => opv ((Builtin.unsafeString_ #[121, 3] 9 #[t7, t12]).run Tryz.prog w) R K) fun t13 w =>
  ext w fun w =>
  R (.returned t13) w
theorem F45.eq (R : Ending → World → Prop) (w : World) (a0 : Value) : F45 R w a0 = shF Tryz.prog 45 [0,2] [a0] R w := by kernel_rfl
theorem F45.calls {R : Ending → World → Prop} {w : World} {a0 : Value} (h : F45 R w a0) : Calls Tryz.prog 45 #[a0] w R := shF_sound (F45.eq R w a0 ▸ h)

end Go.Proofs.YtkjkmahpkfbbnaaGreatDoor
