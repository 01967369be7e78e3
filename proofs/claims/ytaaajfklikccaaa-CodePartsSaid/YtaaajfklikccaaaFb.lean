/-
  Shallow forms of functions of the loaded program, each tied to it. No condition.
-/
import Derived.Test.YtaaajfklikccaaaProg
import Derived.Test.YtaaajfklikccaaaShSound
import Derived.KernelRfl
namespace Go.Proofs.Ytaaajfklikccaaa
open Go Go.Sh
set_option linter.unusedVariables false
set_option maxRecDepth 100000
/-- (*strings.Builder).WriteRune -/
def F32 (R : Ending → World → Prop) (w : World) (a0 a1 : Value) : Prop :=
  callF Try.prog 35 #[a0] w R fun t8 w =>
  nilck a0 w fun t10 w =>
  opv ((Instr.fieldAt 58 t10 1).run Try.prog w) R fun t11 w =>
  opv ((Instr.loadAt 32 t11).run Try.prog w) R fun t12 w =>
  opv ((Builtin.len_ #[32] 3 #[t12]).run Try.prog w) R fun t13 w =>
  nilck a0 w fun t16 w =>
  opv ((Instr.fieldAt 58 t16 1).run Try.prog w) R fun t17 w =>
  opv ((Instr.loadAt 32 t17).run Try.prog w) R fun t18 w =>
  callF Try.prog 36 #[t18, a1] w R fun t20 w =>
  nilck a0 w fun t21 w =>
  opv ((Instr.fieldAt 58 t21 1).run Try.prog w) R fun t22 w =>
  opu ((Instr.storeAt 32 t22 t20).run Try.prog w) R fun _ w =>
  nilck a0 w fun t24 w =>
  opv ((Instr.fieldAt 58 t24 1).run Try.prog w) R fun t25 w =>
  opv ((Instr.loadAt 32 t25).run Try.prog w) R fun t26 w =>
  opv ((Builtin.len_ #[32] 3 #[t26]).run Try.prog w) R fun t27 w =>
  opv ((binOp .sub 3 t27 t13).run Try.prog w) R fun t29 w =>
  R (.returned (.tuple #[t29, .nilIface])) w
theorem F32.eq (R : Ending → World → Prop) (w : World) (a0 a1 : Value) : F32 R w a0 a1 = shF Try.prog 32 [0,1,4,5,6] [a0, a1] R w := by kernel_rfl
theorem F32.calls {R : Ending → World → Prop} {w : World} {a0 a1 : Value} (h : F32 R w a0 a1) : Calls Try.prog 32 #[a0, a1] w R := shF_sound (F32.eq R w a0 a1 ▸ h)

/-- (*strings.Builder).WriteByte -/
def F33 (R : Ending → World → Prop) (w : World) (a0 a1 : Value) : Prop :=
  callF Try.prog 35 #[a0] w R fun t6 w =>
  nilck a0 w fun t9 w =>
  opv ((Instr.fieldAt 58 t9 1).run Try.prog w) R fun t10 w =>
  opv ((Instr.loadAt 32 t10).run Try.prog w) R fun t11 w =>
  opv ((Instr.buildSlice 32 1 #[(0, a1)]).run Try.prog w) R fun t13 w =>
  opv ((Builtin.append_ #[32, 32] 32 #[t11, t13]).run Try.prog w) R fun t14 w =>
  nilck a0 w fun t15 w =>
  opv ((Instr.fieldAt 58 t15 1).run Try.prog w) R fun t16 w =>
  opu ((Instr.storeAt 32 t16 t14).run Try.prog w) R fun _ w =>
  R (.returned .nilIface) w
theorem F33.eq (R : Ending → World → Prop) (w : World) (a0 a1 : Value) : F33 R w a0 a1 = shF Try.prog 33 [0,1,4] [a0, a1] R w := by kernel_rfl
theorem F33.calls {R : Ending → World → Prop} {w : World} {a0 a1 : Value} (h : F33 R w a0 a1) : Calls Try.prog 33 #[a0, a1] w R := shF_sound (F33.eq R w a0 a1 ▸ h)

/-- unicode/utf8.AppendRune -/
def F36 (R : Ending → World → Prop) (w : World) (a0 a1 : Value) : Prop :=
  opv ((convert 21 68 a1).run Try.prog w) R fun t6 w =>
  opv ((binOp .leq 68 t6 (.int .u32 127)).run Try.prog w) R fun t7 w =>
  cond t7 (opv ((convert 21 5 a1).run Try.prog w) R fun t10 w =>
  opv ((Instr.buildSlice 32 1 #[(0, t10)]).run Try.prog w) R fun t11 w =>
  opv ((Builtin.append_ #[32, 32] 32 #[a0, t11]).run Try.prog w) R fun t12 w =>
  R (.returned t12) w)
  (callF Try.prog 38 #[a0, a1] w R fun t15 w =>
  R (.returned t15) w)
theorem F36.eq (R : Ending → World → Prop) (w : World) (a0 a1 : Value) : F36 R w a0 a1 = shF Try.prog 36 [0,1,4,7] [a0, a1] R w := by kernel_rfl
theorem F36.calls {R : Ending → World → Prop} {w : World} {a0 a1 : Value} (h : F36 R w a0 a1) : Calls Try.prog 36 #[a0, a1] w R := shF_sound (F36.eq R w a0 a1 ▸ h)

end Go.Proofs.Ytaaajfklikccaaa
