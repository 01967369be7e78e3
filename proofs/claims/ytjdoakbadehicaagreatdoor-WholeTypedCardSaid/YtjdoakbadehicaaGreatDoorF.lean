/-
  Shallow forms of functions of the loaded program, each tied to it. No condition.
-/
import Derived.Test.YtjdoakbadehicaaGreatDoorProg
import Derived.Test.YtjdoakbadehicaaGreatDoorShSound
import Derived.KernelRfl
namespace Go.Proofs.YtjdoakbadehicaaGreatDoor
open Go Go.Sh
set_option linter.unusedVariables false
set_option maxRecDepth 100000
/-- greenscreen/keyboard.Attention -/
def F9 (R : Ending → World → Prop) (w : World) (a0 : Value) : Prop :=
  callF Tryz.prog 40 #[a0] w R fun t4 w =>
  opv ((binE true .neq 9 t4 (.string ⟨#[]⟩)).run Tryz.prog w) R fun t5 w =>
  R (.returned t5) w
theorem F9.eq (R : Ending → World → Prop) (w : World) (a0 : Value) : F9 R w a0 = shF Tryz.prog 9 [0,2] [a0] R w := by kernel_rfl
theorem F9.calls {R : Ending → World → Prop} {w : World} {a0 : Value} (h : F9 R w a0) : Calls Tryz.prog 9 #[a0] w R := shF_sound (F9.eq R w a0 ▸ h)

/-- greenscreen/keyboard.Short -/
def F10 (R : Ending → World → Prop) (w : World) (a0 : Value) : Prop :=
  callF Tryz.prog 41 #[a0] w R fun t4 w =>
  opv ((binE true .neq 9 t4 (.string ⟨#[]⟩)).run Tryz.prog w) R fun t5 w =>
  gd t5 true (fun K => K a0 w) w fun t7 w =>
  gd t5 true (fun K => opv ((binE true .neq 5 t7 (.int .u8 125)).run Tryz.prog w) R K) w fun t8 w =>
  pick t5 t8 (.bool false) w fun t9 w =>
  R (.returned t9) w
theorem F10.eq (R : Ending → World → Prop) (w : World) (a0 : Value) : F10 R w a0 = shF Tryz.prog 10 [0,2] [a0] R w := by kernel_rfl
theorem F10.calls {R : Ending → World → Prop} {w : World} {a0 : Value} (h : F10 R w a0) : Calls Tryz.prog 10 #[a0] w R := shF_sound (F10.eq R w a0 ▸ h)

/-- greenscreen/code.Bytes -/
def F11 (R : Ending → World → Prop) (w : World) (a0 a1 : Value) : Prop :=
  callF Tryz.prog 42 #[a0] w R fun t13 w =>
  join (upd (upd (upd (upd (ini [a0, a1]) 4 (.slice none 0 0)) 5 (.int .i64 0)) 6 t13) 7 (.slice none 0 0)) (fun j1 =>
  opv ((Instr.range 9 a1).run Tryz.prog w) R fun t15 w =>
  loop (upd (upd (upd (upd (upd (ini [a0, a1]) 4 (.slice none 0 0)) 5 (.int .i64 0)) 6 t13) 7 (.slice none 0 0)) 15 t15) w fun e2 g2 w j2 =>
  opv ((Instr.next t15 true 0).run Tryz.prog w) R fun t16 w =>
  opv ((Instr.extract t16 0).run Tryz.prog w) R fun t17 w =>
  cond t17 (opv ((Instr.extract t16 2).run Tryz.prog w) R fun t18 w =>
  opv ((Instr.lookup 83 t13 t18 true).run Tryz.prog w) R fun t22 w =>
  opv ((Instr.extract t22 0).run Tryz.prog w) R fun t23 w =>
  opv ((Instr.extract t22 1).run Tryz.prog w) R fun t24 w =>
  opv ((Op.unary .not t24).run Tryz.prog w) R fun t26 w =>
  cond t26 (R (.returned (.tuple #[(.slice none 0 0), (.int .i64 21)])) w)
  (opv ((Instr.buildSlice 24 1 #[(0, t23)]).run Tryz.prog w) R fun t29 w =>
  opv ((Builtin.append_ #[24, 24] 24 #[(g2 7), t29]).run Tryz.prog w) R fun t30 w =>
  j2 (upd (upd (upd (upd (upd (upd (upd (mix [16,17,9,10,11,26,4,5,7] g2 e2) 16 t16) 17 t17) 9 t18) 10 t23) 11 t24) 26 t26) 7 t30) w))
  (j1 (upd (upd (mix [16,17,9,10,11,26,4,5,7] g2 e2) 16 t16) 17 t17) w)) fun e1 g1 w =>
  R (.returned (.tuple #[(g1 7), (.int .i64 0)])) w
theorem F11.eq (R : Ending → World → Prop) (w : World) (a0 a1 : Value) : F11 R w a0 a1 = shF Tryz.prog 11 [0,1,4,5,6,7,9,10,11,15,16,17,26] [a0, a1] R w := by kernel_rfl
theorem F11.calls {R : Ending → World → Prop} {w : World} {a0 a1 : Value} (h : F11 R w a0 a1) : Calls Tryz.prog 11 #[a0, a1] w R := shF_sound (F11.eq R w a0 a1 ▸ h)

/-- greenscreen/screen.New -/
def F12 (R : Ending → World → Prop) (w : World) (a0 a1 : Value) : Prop :=
  opv ((Instr.box 32 a0).run Tryz.prog w) R fun t2 w =>
  opv ((Instr.box 32 a1).run Tryz.prog w) R fun t3 w =>
  opv ((Instr.loadAt 32 t2).run Tryz.prog w) R fun t7 w =>
  callF Tryz.prog 43 #[t7] w R fun t8 w =>
  opv ((binE true .eql 3 t8 (.int .i64 0)).run Tryz.prog w) R fun t9 w =>
  gd t9 false (fun K => opv ((Instr.loadAt 32 t3).run Tryz.prog w) R K) w fun t11 w =>
  gd t9 false (fun K => callF Tryz.prog 43 #[t11] w R K) w fun t12 w =>
  gd t9 false (fun K => opv ((binE true .eql 3 t12 (.int .i64 0)).run Tryz.prog w) R K) w fun t13 w =>
  pick t9 (.bool true) t13 w fun t14 w =>
  cond t14 (R (.returned (.tuple #[(.pointer none), (.int .i64 1)])) w)
  (opv ((Instr.loadAt 32 t2).run Tryz.prog w) R fun t15 w =>
  opv ((Instr.loadAt 32 t3).run Tryz.prog w) R fun t16 w =>
  opv ((Instr.build 87 #[(0, t15), (1, t16)]).run Tryz.prog w) R fun t17 w =>
  opv ((Instr.build 89 #[(0, t17)]).run Tryz.prog w) R fun t18 w =>
  opv ((Instr.box 89 t18).run Tryz.prog w) R fun t19 w =>
  callF Tryz.prog 44 #[t19] w R fun t21 w =>
  R (.returned (.tuple #[t19, (.int .i64 0)])) w)
theorem F12.eq (R : Ending → World → Prop) (w : World) (a0 a1 : Value) : F12 R w a0 a1 = shF Tryz.prog 12 [0,1,2,3,4,5,6,14] [a0, a1] R w := by kernel_rfl
theorem F12.calls {R : Ending → World → Prop} {w : World} {a0 a1 : Value} (h : F12 R w a0 a1) : Calls Tryz.prog 12 #[a0, a1] w R := shF_sound (F12.eq R w a0 a1 ▸ h)

/-- (*greenscreen/screen.Screen).Plane -/
def F13 (R : Ending → World → Prop) (w : World) (a0 : Value) : Prop :=
  nilck a0 w fun t4 w =>
  opv ((Instr.fieldAt 89 t4 2).run Tryz.prog w) R fun t5 w =>
  opv ((Instr.loadAt 33 t5).run Tryz.prog w) R fun t6 w =>
  R (.returned t6) w
theorem F13.eq (R : Ending → World → Prop) (w : World) (a0 : Value) : F13 R w a0 = shF Tryz.prog 13 [0,2] [a0] R w := by kernel_rfl
theorem F13.calls {R : Ending → World → Prop} {w : World} {a0 : Value} (h : F13 R w a0) : Calls Tryz.prog 13 #[a0] w R := shF_sound (F13.eq R w a0 ▸ h)

/-- (*greenscreen/plane.Plane).Set -/
def F14 (R : Ending → World → Prop) (w : World) (a0 a1 a2 : Value) : Prop :=
  opv ((Instr.box 37 a2).run Tryz.prog w) R fun t5 w =>
  callF Tryz.prog 45 #[a0, a1] w R fun t9 w =>
  opv ((Op.unary .not t9).run Tryz.prog w) R fun t10 w =>
  cond t10 (R (.returned (.bool false)) w)
  (drawn w fun T w =>
  qop T w (fun w K => nilck a0 w K) fun t12 =>
  qop T w (fun w K => opv ((Instr.fieldAt 91 t12 1).run Tryz.prog w) noR K) fun t13 =>
  qop T w (fun w K => opv ((Instr.loadAt 52 t13).run Tryz.prog w) noR K) fun t14 =>
  qop T w (fun w K => opv ((Instr.loadAt 37 t5).run Tryz.prog w) noR K) fun t16 =>
  qop T w (fun w K => opv ((Instr.indexAt 52 t14 a1).run Tryz.prog w) noR K) fun t17 =>
  ext w fun w =>
  opu ((Instr.storeAt 37 t17 t16).run Tryz.prog w) R fun _ w =>
  ext w fun w =>
  R (.returned (.bool true)) w)
theorem F14.eq (R : Ending → World → Prop) (w : World) (a0 a1 a2 : Value) : F14 R w a0 a1 a2 = shF Tryz.prog 14 [0,1,2,5,6,10] [a0, a1, a2] R w := by kernel_rfl
theorem F14.calls {R : Ending → World → Prop} {w : World} {a0 a1 a2 : Value} (h : F14 R w a0 a1 a2) : Calls Tryz.prog 14 #[a0, a1, a2] w R := shF_sound (F14.eq R w a0 a1 a2 ▸ h)

/-- greenscreen/keyboard.New -/
def F15 (R : Ending → World → Prop) (w : World) (a0 : Value) : Prop :=
  opv ((Instr.build 95 #[(0, a0), (3, (.int .u8 96))]).run Tryz.prog w) R fun t4 w =>
  opv ((Instr.box 95 t4).run Tryz.prog w) R fun t5 w =>
  R (.returned t5) w
theorem F15.eq (R : Ending → World → Prop) (w : World) (a0 : Value) : F15 R w a0 = shF Tryz.prog 15 [0,2] [a0] R w := by kernel_rfl
theorem F15.calls {R : Ending → World → Prop} {w : World} {a0 : Value} (h : F15 R w a0) : Calls Tryz.prog 15 #[a0] w R := shF_sound (F15.eq R w a0 ▸ h)

/-- (*greenscreen/keyboard.Keyboard).Lock -/
def F16 (R : Ending → World → Prop) (w : World) (a0 : Value) : Prop :=
  nilck a0 w fun t4 w =>
  opv ((Instr.fieldAt 95 t4 1).run Tryz.prog w) R fun t5 w =>
  R (.returned t5) w
theorem F16.eq (R : Ending → World → Prop) (w : World) (a0 : Value) : F16 R w a0 = shF Tryz.prog 16 [0,2] [a0] R w := by kernel_rfl
theorem F16.calls {R : Ending → World → Prop} {w : World} {a0 : Value} (h : F16 R w a0) : Calls Tryz.prog 16 #[a0] w R := shF_sound (F16.eq R w a0 ▸ h)

/-- (*greenscreen/lock.Lock).Open -/
def F17 (R : Ending → World → Prop) (w : World) (a0 : Value) : Prop :=
  callF Tryz.prog 46 #[a0, (.int .i64 1), (.int .i64 0)] w R fun t3 w =>
  R (.returned (.tuple #[])) w
theorem F17.eq (R : Ending → World → Prop) (w : World) (a0 : Value) : F17 R w a0 = shF Tryz.prog 17 [0] [a0] R w := by kernel_rfl
theorem F17.calls {R : Ending → World → Prop} {w : World} {a0 : Value} (h : F17 R w a0) : Calls Tryz.prog 17 #[a0] w R := shF_sound (F17.eq R w a0 ▸ h)

/-- (*greenscreen/keyboard.Keyboard).Press -/
def F18 (R : Ending → World → Prop) (w : World) (a0 a1 : Value) : Prop :=
  opv ((Instr.box 45 a1).run Tryz.prog w) R fun t3 w =>
  opv ((Instr.fieldAt 45 t3 0).run Tryz.prog w) R fun t7 w =>
  opv ((Instr.loadAt 3 t7).run Tryz.prog w) R fun t8 w =>
  opv ((binE true .eql 3 t8 (.int .i64 16)).run Tryz.prog w) R fun t9 w =>
  cond t9 (nilck a0 w fun t11 w =>
  opv ((Instr.fieldAt 95 t11 1).run Tryz.prog w) R fun t12 w =>
  callF Tryz.prog 47 #[t12] w R fun t13 w =>
  nilck a0 w fun t15 w =>
  opv ((Instr.fieldAt 95 t15 2).run Tryz.prog w) R fun t16 w =>
  opu ((Instr.storeAt 4 t16 (.bool false)).run Tryz.prog w) R fun _ w =>
  R (.returned (.tuple #[(.bool false), (.int .i64 0)])) w)
  (nilck a0 w fun t18 w =>
  opv ((Instr.fieldAt 95 t18 1).run Tryz.prog w) R fun t19 w =>
  callF Tryz.prog 28 #[t19] w R fun t20 w =>
  opv ((binE true .neq 25 t20 (.int .i64 0)).run Tryz.prog w) R fun t23 w =>
  cond t23 (R (.returned (.tuple #[(.bool false), t20])) w)
  (opv ((Instr.loadAt 45 t3).run Tryz.prog w) R fun t26 w =>
  callF Tryz.prog 48 #[t26] w R fun t27 w =>
  opv ((Op.unary .not t27).run Tryz.prog w) R fun t28 w =>
  cond t28 (R (.returned (.tuple #[(.bool false), (.int .i64 1)])) w)
  (opv ((Instr.fieldAt 45 t3 0).run Tryz.prog w) R fun t30 w =>
  opv ((Instr.loadAt 3 t30).run Tryz.prog w) R fun t31 w =>
  opv ((binE true .eql 3 t31 (.int .i64 17)).run Tryz.prog w) R fun t32 w =>
  cond t32 (opv ((Instr.fieldAt 45 t3 1).run Tryz.prog w) R fun t34 w =>
  opv ((Instr.loadAt 5 t34).run Tryz.prog w) R fun t35 w =>
  callF Tryz.prog 49 #[a0, t35] w R fun t36 w =>
  opv ((Instr.extract t36 0).run Tryz.prog w) R fun t37 w =>
  opv ((Instr.extract t36 1).run Tryz.prog w) R fun t38 w =>
  R (.returned (.tuple #[t37, t38])) w)
  (drawn w fun T w =>
  qop T w (fun w K => nilck a0 w K) fun t41 =>
  qop T w (fun w K => opv ((Instr.fieldAt 95 t41 0).run Tryz.prog w) noR K) fun t42 =>
  qop T w (fun w K => opv ((Instr.loadAt 28 t42).run Tryz.prog w) noR K) fun t43 =>
  qop T w (fun w K => opv ((Instr.fieldAt 45 t3 0).run Tryz.prog w) noR K) fun t45 =>
  qop T w (fun w K => opv ((Instr.loadAt 3 t45).run Tryz.prog w) noR K) fun t46 =>
  ext w fun w =>
  lop T w (fun w K => callF Tryz.prog 13 #[t43] w R K) fun t44 w =>
  ext w fun w =>
  lop T w (fun w K => callF Tryz.prog 50 #[t44, t46] w R K) fun t47 w =>
  ext w fun w =>
  cond t47 (R (.returned (.tuple #[(.bool false), (.int .i64 0)])) w)
  (drawn w fun T w =>
  qop T w (fun w K => nilck a0 w K) fun t49 =>
  qop T w (fun w K => opv ((Instr.fieldAt 95 t49 1).run Tryz.prog w) noR K) fun t50 =>
  qop T w (fun w K => opv ((Instr.loadAt 45 t3).run Tryz.prog w) noR K) fun t52 =>
  ext w fun w =>
  lop T w (fun w K => callF Tryz.prog 52 #[a0, t52] w R K) fun t53 w =>
  ext w fun w =>
  lop T w (fun w K => callF Tryz.prog 51 #[t50, t53] w R K) fun t54 w =>
  ext w fun w =>
  R (.returned (.tuple #[(.bool false), t54])) w)))))
theorem F18.eq (R : Ending → World → Prop) (w : World) (a0 a1 : Value) : F18 R w a0 a1 = shF Tryz.prog 18 [0,1,3,4,5,6,9,21,25,29,39] [a0, a1] R w := by kernel_rfl
theorem F18.calls {R : Ending → World → Prop} {w : World} {a0 a1 : Value} (h : F18 R w a0 a1) : Calls Tryz.prog 18 #[a0, a1] w R := shF_sound (F18.eq R w a0 a1 ▸ h)

/-- greenscreen/grammar.Parse -/
def F19 (R : Ending → World → Prop) (w : World) (a0 : Value) : Prop :=
  opv ((Instr.alloc 48 true (.tuple #[])).run Tryz.prog w) R fun t2 w =>
  callF Tryz.prog 53 #[a0, (.func (.func 54) #[] #[])] w R fun t5 w =>
  opv ((Instr.extract t5 0).run Tryz.prog w) R fun t6 w =>
  opv ((Instr.extract t5 1).run Tryz.prog w) R fun t7 w =>
  opu ((Instr.storeAt 48 t2 t6).run Tryz.prog w) R fun _ w =>
  ldv ((Instr.loadAt 48 t2).run Tryz.prog w) w fun r0 =>
  R (.returned (.tuple #[r0, t7])) w
theorem F19.eq (R : Ending → World → Prop) (w : World) (a0 : Value) : F19 R w a0 = shF Tryz.prog 19 [0,2,3] [a0] R w := by kernel_rfl
theorem F19.calls {R : Ending → World → Prop} {w : World} {a0 : Value} (h : F19 R w a0) : Calls Tryz.prog 19 #[a0] w R := shF_sound (F19.eq R w a0 ▸ h)

/-- greenscreen/reply.Read -/
def F20 (R : Ending → World → Prop) (w : World) (a0 a1 : Value) : Prop :=
  callF Tryz.prog 10 #[a1] w R fun t6 w =>
  cond t6 (opv ((Instr.buildSlice 24 1 #[(0, a1)]).run Tryz.prog w) R fun t8 w =>
  R (.returned t8) w)
  (callF Tryz.prog 55 #[a0, a1] w R fun t11 w =>
  R (.returned t11) w)
theorem F20.eq (R : Ending → World → Prop) (w : World) (a0 a1 : Value) : F20 R w a0 a1 = shF Tryz.prog 20 [0,1,4,6] [a0, a1] R w := by kernel_rfl
theorem F20.calls {R : Ending → World → Prop} {w : World} {a0 a1 : Value} (h : F20 R w a0 a1) : Calls Tryz.prog 20 #[a0, a1] w R := shF_sound (F20.eq R w a0 a1 ▸ h)

/-- greenscreen/code.Text -/
def F21 (R : Ending → World → Prop) (w : World) (a0 a1 : Value) : Prop :=
  opv ((Instr.alloc 108 true (.tuple #[])).run Tryz.prog w) R fun t5 w =>
  callF Tryz.prog 56 #[a0] w R fun t10 w =>
  opv ((Instr.alloc 109 true (.tuple #[])).run Tryz.prog w) R fun t6 w =>
  opu ((Instr.storeAt 109 t6 t10).run Tryz.prog w) R fun _ w =>
  join (upd (upd (upd (ini [a0, a1]) 4 (.string ⟨#[]⟩)) 5 t5) 6 t6) (fun j1 =>
  opv ((Builtin.len_ #[24] 3 #[a1]).run Tryz.prog w) R fun t12 w =>
  loop (upd (upd (upd (upd (upd (upd (ini [a0, a1]) 4 (.string ⟨#[]⟩)) 5 t5) 6 t6) 11 a1) 12 t12) 13 (.int .i64 0)) w fun e2 g2 w j2 =>
  opv ((binOp .lss 3 (g2 13) t12).run Tryz.prog w) R fun t14 w =>
  cond t14 (join (upd (mix [14,8,18,13] g2 e2) 14 t14) (fun j3 =>
  opv ((Instr.indexAt 24 a1 (g2 13)).run Tryz.prog w) R fun t15 w =>
  opv ((Instr.loadAt 5 t15).run Tryz.prog w) R fun t16 w =>
  callF Tryz.prog 57 #[t16] w R fun t18 w =>
  cond t18 (opv ((Instr.indexAt 109 t6 t16).run Tryz.prog w) R fun t20 w =>
  opv ((Instr.loadAt 21 t20).run Tryz.prog w) R fun t21 w =>
  callF Tryz.prog 58 #[t5, t21] w R fun t22 w =>
  j3 (upd (upd (upd (mix [14,8,18,13] g2 e2) 14 t14) 8 t16) 18 t18) w)
  (callF Tryz.prog 59 #[t5, (.int .u8 32)] w R fun t23 w =>
  j3 (upd (upd (upd (mix [14,8,18,13] g2 e2) 14 t14) 8 t16) 18 t18) w)) fun e3 g3 w =>
  opv ((binOp .add 3 (g2 13) (.int .i64 1)).run Tryz.prog w) R fun t24 w =>
  j2 (upd (mix [8,18] g3 e3) 13 t24) w)
  (j1 (upd (mix [14,8,18,13] g2 e2) 14 t14) w)) fun e1 g1 w =>
  callF Tryz.prog 60 #[t5] w R fun t25 w =>
  R (.returned t25) w
theorem F21.eq (R : Ending → World → Prop) (w : World) (a0 a1 : Value) : F21 R w a0 a1 = shF Tryz.prog 21 [0,1,4,5,6,8,11,12,13,14,18] [a0, a1] R w := by kernel_rfl
theorem F21.calls {R : Ending → World → Prop} {w : World} {a0 a1 : Value} (h : F21 R w a0 a1) : Calls Tryz.prog 21 #[a0, a1] w R := shF_sound (F21.eq R w a0 a1 ▸ h)

/-- (*greenscreen/plane.Plane).Cursor -/
def F24 (R : Ending → World → Prop) (w : World) (a0 : Value) : Prop :=
  nilck a0 w fun t4 w =>
  opv ((Instr.fieldAt 91 t4 2).run Tryz.prog w) R fun t5 w =>
  opv ((Instr.loadAt 3 t5).run Tryz.prog w) R fun t6 w =>
  R (.returned t6) w
theorem F24.eq (R : Ending → World → Prop) (w : World) (a0 : Value) : F24 R w a0 = shF Tryz.prog 24 [0,2] [a0] R w := by kernel_rfl
theorem F24.calls {R : Ending → World → Prop} {w : World} {a0 : Value} (h : F24 R w a0) : Calls Tryz.prog 24 #[a0] w R := shF_sound (F24.eq R w a0 ▸ h)

/-- (*greenscreen/lock.Lock).May -/
def F28 (R : Ending → World → Prop) (w : World) (a0 : Value) : Prop :=
  nilck a0 w fun t4 w =>
  opv ((Instr.fieldAt 93 t4 0).run Tryz.prog w) R fun t5 w =>
  opv ((Instr.loadAt 3 t5).run Tryz.prog w) R fun t6 w =>
  opv ((binE true .neq 3 t6 (.int .i64 1)).run Tryz.prog w) R fun t7 w =>
  cond t7 (R (.returned (.int .i64 40)) w)
  (R (.returned (.int .i64 0)) w)
theorem F28.eq (R : Ending → World → Prop) (w : World) (a0 : Value) : F28 R w a0 = shF Tryz.prog 28 [0,2,7] [a0] R w := by kernel_rfl
theorem F28.calls {R : Ending → World → Prop} {w : World} {a0 : Value} (h : F28 R w a0) : Calls Tryz.prog 28 #[a0] w R := shF_sound (F28.eq R w a0 ▸ h)

/-- (*greenscreen/plane.Plane).Len -/
def F30 (R : Ending → World → Prop) (w : World) (a0 : Value) : Prop :=
  nilck a0 w fun t4 w =>
  opv ((Instr.fieldAt 91 t4 1).run Tryz.prog w) R fun t5 w =>
  opv ((Instr.loadAt 52 t5).run Tryz.prog w) R fun t6 w =>
  opv ((Builtin.len_ #[52] 3 #[t6]).run Tryz.prog w) R fun t7 w =>
  R (.returned t7) w
theorem F30.eq (R : Ending → World → Prop) (w : World) (a0 : Value) : F30 R w a0 = shF Tryz.prog 30 [0,2] [a0] R w := by kernel_rfl
theorem F30.calls {R : Ending → World → Prop} {w : World} {a0 : Value} (h : F30 R w a0) : Calls Tryz.prog 30 #[a0] w R := shF_sound (F30.eq R w a0 ▸ h)

/-- (*greenscreen/plane.Plane).At -/
def F31 (R : Ending → World → Prop) (w : World) (a0 a1 : Value) : Prop :=
  opv ((Instr.alloc 37 true (.tuple #[])).run Tryz.prog w) R fun t4 w =>
  callF Tryz.prog 45 #[a0, a1] w R fun t7 w =>
  opv ((Op.unary .not t7).run Tryz.prog w) R fun t8 w =>
  cond t8 (opv ((Instr.build 37 #[]).run Tryz.prog w) R fun t9 w =>
  opu ((Instr.storeAt 37 t4 t9).run Tryz.prog w) R fun _ w =>
  ldv ((Instr.loadAt 37 t4).run Tryz.prog w) w fun r0 =>
  R (.returned r0) w)
  (nilck a0 w fun t11 w =>
  opv ((Instr.fieldAt 91 t11 1).run Tryz.prog w) R fun t12 w =>
  opv ((Instr.loadAt 52 t12).run Tryz.prog w) R fun t13 w =>
  opv ((Instr.indexAt 52 t13 a1).run Tryz.prog w) R fun t15 w =>
  opv ((Instr.loadAt 37 t15).run Tryz.prog w) R fun t16 w =>
  opu ((Instr.storeAt 37 t4 t16).run Tryz.prog w) R fun _ w =>
  ldv ((Instr.loadAt 37 t4).run Tryz.prog w) w fun r0 =>
  R (.returned r0) w)
theorem F31.eq (R : Ending → World → Prop) (w : World) (a0 a1 : Value) : F31 R w a0 a1 = shF Tryz.prog 31 [0,1,4,8] [a0, a1] R w := by kernel_rfl
theorem F31.calls {R : Ending → World → Prop} {w : World} {a0 a1 : Value} (h : F31 R w a0 a1) : Calls Tryz.prog 31 #[a0, a1] w R := shF_sound (F31.eq R w a0 a1 ▸ h)

/-- greenscreen/plane.New -/
def F33 (R : Ending → World → Prop) (w : World) (a0 : Value) : Prop :=
  opv ((Instr.box 32 a0).run Tryz.prog w) R fun t1 w =>
  opv ((Instr.loadAt 32 t1).run Tryz.prog w) R fun t5 w =>
  callF Tryz.prog 43 #[t5] w R fun t6 w =>
  opv ((binE true .eql 3 t6 (.int .i64 0)).run Tryz.prog w) R fun t8 w =>
  cond t8 (R (.returned (.tuple #[(.pointer none), (.int .i64 1)])) w)
  (drawn w fun T w =>
  qop T w (fun w K => opv ((Instr.loadAt 32 t1).run Tryz.prog w) noR K) fun t9 =>
  ext w fun w =>
  lop T w (fun w K => opv ((Instr.makeSlice 52 t6 t6).run Tryz.prog w) R K) fun t11 w =>
  qop T w (fun w K => opv ((Instr.build 91 #[(0, t9), (1, t11)]).run Tryz.prog w) noR K) fun t12 =>
  ext w fun w =>
  lop T w (fun w K => opv ((Instr.box 91 t12).run Tryz.prog w) R K) fun t13 w =>
  ext w fun w =>
  R (.returned (.tuple #[t13, (.int .i64 0)])) w)
theorem F33.eq (R : Ending → World → Prop) (w : World) (a0 : Value) : F33 R w a0 = shF Tryz.prog 33 [0,1,2,3,4,8] [a0] R w := by kernel_rfl
theorem F33.calls {R : Ending → World → Prop} {w : World} {a0 : Value} (h : F33 R w a0) : Calls Tryz.prog 33 #[a0] w R := shF_sound (F33.eq R w a0 ▸ h)

/-- (*greenscreen/plane.Plane).Point -/
def F36 (R : Ending → World → Prop) (w : World) (a0 a1 : Value) : Prop :=
  callF Tryz.prog 45 #[a0, a1] w R fun t7 w =>
  opv ((Op.unary .not t7).run Tryz.prog w) R fun t8 w =>
  cond t8 (R (.returned (.bool false)) w)
  (nilck a0 w fun t11 w =>
  opv ((Instr.fieldAt 91 t11 2).run Tryz.prog w) R fun t12 w =>
  opu ((Instr.storeAt 3 t12 a1).run Tryz.prog w) R fun _ w =>
  R (.returned (.bool true)) w)
theorem F36.eq (R : Ending → World → Prop) (w : World) (a0 a1 : Value) : F36 R w a0 a1 = shF Tryz.prog 36 [0,1,4,8] [a0, a1] R w := by kernel_rfl
theorem F36.calls {R : Ending → World → Prop} {w : World} {a0 a1 : Value} (h : F36 R w a0 a1) : Calls Tryz.prog 36 #[a0, a1] w R := shF_sound (F36.eq R w a0 a1 ▸ h)

/-- greenscreen/typing.Put -/
def F37 (R : Ending → World → Prop) (w : World) (a0 a1 a2 : Value) : Prop :=
  callF Tryz.prog 24 #[a0] w R fun t12 w =>
  callF Tryz.prog 71 #[a0, a1] w R fun t15 w =>
  opv ((binE true .neq 25 t15 (.int .i64 0)).run Tryz.prog w) R fun t17 w =>
  cond t17 (R (.returned t15) w)
  (callF Tryz.prog 31 #[a0, t12] w R fun t21 w =>
  opv ((Instr.alloc 37 true (.tuple #[])).run Tryz.prog w) R fun t9 w =>
  opu ((Instr.storeAt 37 t9 t21).run Tryz.prog w) R fun _ w =>
  join (upd (upd (upd (upd (upd (ini [a0, a1, a2]) 6 (.int .i64 0)) 7 t12) 8 t15) 17 t17) 9 t9) (fun j1 =>
  cond a2 (callF Tryz.prog 72 #[a0] w R fun t24 w =>
  opv ((binE true .neq 25 t24 (.int .i64 0)).run Tryz.prog w) R fun t26 w =>
  cond t26 (R (.returned t24) w)
  (j1 (upd (upd (upd (upd (upd (upd (upd (upd (ini [a0, a1, a2]) 6 (.int .i64 0)) 7 t12) 8 t15) 17 t17) 9 t9) 22 a2) 10 t24) 26 t26) w))
  (j1 (upd (upd (upd (upd (upd (upd (ini [a0, a1, a2]) 6 (.int .i64 0)) 7 t12) 8 t15) 17 t17) 9 t9) 22 a2) w)) fun e1 g1 w =>
  opv ((Instr.fieldAt 37 t9 3).run Tryz.prog w) R fun t31 w =>
  opv ((Instr.loadAt 5 t31).run Tryz.prog w) R fun t32 w =>
  opv ((Instr.fieldAt 37 t9 4).run Tryz.prog w) R fun t33 w =>
  opv ((Instr.loadAt 5 t33).run Tryz.prog w) R fun t34 w =>
  opv ((Instr.build 37 #[(0, a1), (3, t32), (4, t34)]).run Tryz.prog w) R fun t35 w =>
  callF Tryz.prog 14 #[a0, t12, t35] w R fun t36 w =>
  callF Tryz.prog 73 #[a0, t12] w R fun t39 w =>
  callF Tryz.prog 74 #[a0] w R fun t41 w =>
  R (.returned (.int .i64 0)) w)
theorem F37.eq (R : Ending → World → Prop) (w : World) (a0 a1 a2 : Value) : F37 R w a0 a1 a2 = shF Tryz.prog 37 [0,1,2,6,7,8,9,10,17,22,26] [a0, a1, a2] R w := by kernel_rfl
theorem F37.calls {R : Ending → World → Prop} {w : World} {a0 a1 a2 : Value} (h : F37 R w a0 a1 a2) : Calls Tryz.prog 37 #[a0, a1, a2] w R := shF_sound (F37.eq R w a0 a1 a2 ▸ h)

/-- greenscreen/grammar.Text -/
def F38 (R : Ending → World → Prop) (w : World) (a0 a1 : Value) : Prop :=
  opv ((Instr.box 48 a1).run Tryz.prog w) R fun t3 w =>
  opv ((Instr.fieldAt 48 t3 1).run Tryz.prog w) R fun t11 w =>
  opv ((Instr.loadAt 4 t11).run Tryz.prog w) R fun t12 w =>
  cond t12 (opv ((Instr.fieldAt 48 t3 0).run Tryz.prog w) R fun t13 w =>
  opv ((Instr.loadAt 5 t13).run Tryz.prog w) R fun t14 w =>
  callF Tryz.prog 75 #[t14] w R fun t15 w =>
  R (.returned t15) w)
  (opv ((Instr.alloc 108 true (.tuple #[])).run Tryz.prog w) R fun t5 w =>
  drawn w fun T w =>
  qop T w (fun w K => opv ((Instr.fieldAt 48 t3 0).run Tryz.prog w) noR K) fun t16 =>
  qop T w (fun w K => opv ((Instr.loadAt 5 t16).run Tryz.prog w) noR K) fun t17 =>
  qop T w (fun w K => callF Tryz.prog 75 #[t17] w noR K) fun t18 =>
  qop T w (fun w K => opv ((binOp .add 9 t18 (.string ⟨#[32, 64]⟩)).run Tryz.prog w) noR K) fun t19 =>
  qop T w (fun w K => opv ((Instr.fieldAt 48 t3 2).run Tryz.prog w) noR K) fun t20 =>
  qop T w (fun w K => opv ((Instr.loadAt 3 t20).run Tryz.prog w) noR K) fun t21 =>
  qop T w (fun w K => callF Tryz.prog 77 #[t21] w noR K) fun t22 =>
  qop T w (fun w K => opv ((binOp .add 9 t19 t22).run Tryz.prog w) noR K) fun t23 =>
  ext w fun w =>
  lop T w (fun w K => callF Tryz.prog 76 #[t5, t23] w R K) fun t24 w =>
  ext w fun w =>
  join (upd (upd (upd (upd (ini [a0, a1]) 3 t3) 4 (.string ⟨#[]⟩)) 12 t12) 5 t5) (fun j1 =>
  opv ((Instr.fieldAt 48 t3 3).run Tryz.prog w) R fun t25 w =>
  opv ((Instr.loadAt 46 t25).run Tryz.prog w) R fun t26 w =>
  opv ((Builtin.len_ #[46] 3 #[t26]).run Tryz.prog w) R fun t27 w =>
  loop (upd (upd (upd (upd (upd (upd (upd (ini [a0, a1]) 3 t3) 4 (.string ⟨#[]⟩)) 12 t12) 5 t5) 26 t26) 27 t27) 28 (.int .i64 0)) w fun e2 g2 w j2 =>
  opv ((binOp .lss 3 (g2 28) t27).run Tryz.prog w) R fun t29 w =>
  cond t29 (join (upd (mix [29,7,37,8,43,44,46,10,45,28] g2 e2) 29 t29) (fun j3 =>
  opv ((Instr.indexAt 46 t26 (g2 28)).run Tryz.prog w) R fun t30 w =>
  opv ((Instr.loadAt 54 t30).run Tryz.prog w) R fun t31 w =>
  opv ((Instr.alloc 54 true (.tuple #[])).run Tryz.prog w) R fun t7 w =>
  opu ((Instr.storeAt 54 t7 t31).run Tryz.prog w) R fun _ w =>
  opv ((Instr.fieldAt 54 t7 0).run Tryz.prog w) R fun t32 w =>
  opv ((Instr.loadAt 3 t32).run Tryz.prog w) R fun t33 w =>
  callF Tryz.prog 77 #[t33] w R fun t34 w =>
  join (upd (upd (upd (mix [29,7,37,8,43,44,46,10,45,28] g2 e2) 29 t29) 7 t7) 8 t34) (fun j4 =>
  opv ((Instr.fieldAt 54 t7 0).run Tryz.prog w) R fun t35 w =>
  opv ((Instr.loadAt 3 t35).run Tryz.prog w) R fun t36 w =>
  opv ((binE true .eql 3 t36 (.int .i64 (-1))).run Tryz.prog w) R fun t37 w =>
  cond t37 (j4 (upd (upd (upd (upd (upd (mix [29,7,37,8,43,44,46,10,45,28] g2 e2) 29 t29) 7 t7) 8 t34) 37 t37) 8 (.string ⟨#[42]⟩)) w)
  (j4 (upd (upd (upd (upd (mix [29,7,37,8,43,44,46,10,45,28] g2 e2) 29 t29) 7 t7) 8 t34) 37 t37) w)) fun e4 g4 w =>
  opv ((binOp .add 9 (.string ⟨#[32]⟩) (g4 8)).run Tryz.prog w) R fun t39 w =>
  opv ((binOp .add 9 t39 (.string ⟨#[61]⟩)).run Tryz.prog w) R fun t40 w =>
  callF Tryz.prog 76 #[t5, t40] w R fun t41 w =>
  opv ((Instr.fieldAt 54 t7 1).run Tryz.prog w) R fun t42 w =>
  opv ((Instr.loadAt 52 t42).run Tryz.prog w) R fun t43 w =>
  opv ((Builtin.len_ #[52] 3 #[t43]).run Tryz.prog w) R fun t44 w =>
  loop (upd (upd (upd (mix [37,8] g4 e4) 43 t43) 44 t44) 45 (.int .i64 0)) w fun e5 g5 w j5 =>
  opv ((binOp .lss 3 (g5 45) t44).run Tryz.prog w) R fun t46 w =>
  cond t46 (opv ((Instr.indexAt 52 t43 (g5 45)).run Tryz.prog w) R fun t47 w =>
  opv ((Instr.loadAt 37 t47).run Tryz.prog w) R fun t48 w =>
  opv ((Instr.alloc 37 true (.tuple #[])).run Tryz.prog w) R fun t10 w =>
  opu ((Instr.storeAt 37 t10 t48).run Tryz.prog w) R fun _ w =>
  opv ((Instr.loadAt 37 t10).run Tryz.prog w) R fun t50 w =>
  callF Tryz.prog 78 #[a0, t50] w R fun t51 w =>
  callF Tryz.prog 76 #[t5, t51] w R fun t52 w =>
  opv ((binOp .add 3 (g5 45) (.int .i64 1)).run Tryz.prog w) R fun t53 w =>
  j5 (upd (upd (upd (mix [46,10,45] g5 e5) 46 t46) 10 t10) 45 t53) w)
  (j3 (upd (mix [46,10,45] g5 e5) 46 t46) w)) fun e3 g3 w =>
  opv ((binOp .add 3 (g2 28) (.int .i64 1)).run Tryz.prog w) R fun t54 w =>
  j2 (upd (mix [7,37,8,43,44,46,10,45] g3 e3) 28 t54) w)
  (j1 (upd (mix [29,7,37,8,43,44,46,10,45,28] g2 e2) 29 t29) w)) fun e1 g1 w =>
  callF Tryz.prog 60 #[t5] w R fun t55 w =>
  R (.returned t55) w)
theorem F38.eq (R : Ending → World → Prop) (w : World) (a0 a1 : Value) : F38 R w a0 a1 = shF Tryz.prog 38 [0,1,3,4,5,7,8,10,12,26,27,28,29,37,43,44,45,46] [a0, a1] R w := by kernel_rfl
theorem F38.calls {R : Ending → World → Prop} {w : World} {a0 a1 : Value} (h : F38 R w a0 a1) : Calls Tryz.prog 38 #[a0, a1] w R := shF_sound (F38.eq R w a0 a1 ▸ h)

/-- greenscreen/code.Sign -/
def F39 (R : Ending → World → Prop) (w : World) (a0 a1 : Value) : Prop :=
  join (upd (ini [a0, a1]) 4 (.int .i32 0)) (fun j1 =>
  callF Tryz.prog 79 #[a0] w R fun t8 w =>
  opv ((Builtin.len_ #[139] 3 #[t8]).run Tryz.prog w) R fun t9 w =>
  loop (upd (upd (upd (upd (ini [a0, a1]) 4 (.int .i32 0)) 8 t8) 9 t9) 10 (.int .i64 0)) w fun e2 g2 w j2 =>
  opv ((binOp .lss 3 (g2 10) t9).run Tryz.prog w) R fun t11 w =>
  cond t11 (opv ((Instr.indexAt 139 t8 (g2 10)).run Tryz.prog w) R fun t12 w =>
  opv ((Instr.loadAt 142 t12).run Tryz.prog w) R fun t13 w =>
  opv ((Instr.alloc 142 true (.tuple #[])).run Tryz.prog w) R fun t6 w =>
  opu ((Instr.storeAt 142 t6 t13).run Tryz.prog w) R fun _ w =>
  opv ((Instr.fieldAt 142 t6 0).run Tryz.prog w) R fun t14 w =>
  opv ((Instr.loadAt 5 t14).run Tryz.prog w) R fun t15 w =>
  opv ((binE false .eql 5 t15 a1).run Tryz.prog w) R fun t17 w =>
  cond t17 (opv ((Instr.fieldAt 142 t6 1).run Tryz.prog w) R fun t18 w =>
  opv ((Instr.loadAt 5 t18).run Tryz.prog w) R fun t19 w =>
  opv ((convert 5 21 t19).run Tryz.prog w) R fun t20 w =>
  R (.returned t20) w)
  (opv ((binOp .add 3 (g2 10) (.int .i64 1)).run Tryz.prog w) R fun t21 w =>
  j2 (upd (upd (upd (upd (mix [11,6,17,4,10] g2 e2) 11 t11) 6 t6) 17 t17) 10 t21) w))
  (j1 (upd (mix [11,6,17,4,10] g2 e2) 11 t11) w)) fun e1 g1 w =>
  callF Tryz.prog 80 #[] w R fun t22 w =>
  opv ((Instr.index 143 t22 a1).run Tryz.prog w) R fun t24 w =>
  opv ((convert 5 21 t24).run Tryz.prog w) R fun t25 w =>
  R (.returned t25) w
theorem F39.eq (R : Ending → World → Prop) (w : World) (a0 a1 : Value) : F39 R w a0 a1 = shF Tryz.prog 39 [0,1,4,6,8,9,10,11,17] [a0, a1] R w := by kernel_rfl
theorem F39.calls {R : Ending → World → Prop} {w : World} {a0 a1 : Value} (h : F39 R w a0 a1) : Calls Tryz.prog 39 #[a0, a1] w R := shF_sound (F39.eq R w a0 a1 ▸ h)

/-- greenscreen/keyboard.attention -/
def F40 (R : Ending → World → Prop) (w : World) (a0 : Value) : Prop :=
  callF Tryz.prog 81 #[a0] w R fun t5 w =>
  opv ((binOp .gtr 3 t5 (.int .i64 0)).run Tryz.prog w) R fun t7 w =>
  cond t7 (callF Tryz.prog 77 #[t5] w R fun t9 w =>
  opv ((binOp .add 9 (.string ⟨#[80, 70]⟩) t9).run Tryz.prog w) R fun t10 w =>
  R (.returned t10) w)
  (callF Tryz.prog 41 #[a0] w R fun t12 w =>
  R (.returned t12) w)
theorem F40.eq (R : Ending → World → Prop) (w : World) (a0 : Value) : F40 R w a0 = shF Tryz.prog 40 [0,2,3,7] [a0] R w := by kernel_rfl
theorem F40.calls {R : Ending → World → Prop} {w : World} {a0 : Value} (h : F40 R w a0) : Calls Tryz.prog 40 #[a0] w R := shF_sound (F40.eq R w a0 ▸ h)

/-- greenscreen/keyboard.plain -/
def F41 (R : Ending → World → Prop) (w : World) (a0 : Value) : Prop :=
  opv ((binE true .eql 5 a0 (.int .u8 125)).run Tryz.prog w) R fun t5 w =>
  cond t5 (R (.returned (.string ⟨#[69, 78, 84, 69, 82]⟩)) w)
  (opv ((binE true .eql 5 a0 (.int .u8 109)).run Tryz.prog w) R fun t7 w =>
  cond t7 (R (.returned (.string ⟨#[67, 76, 69, 65, 82]⟩)) w)
  (opv ((binE true .eql 5 a0 (.int .u8 108)).run Tryz.prog w) R fun t9 w =>
  cond t9 (R (.returned (.string ⟨#[80, 65, 49]⟩)) w)
  (opv ((binE true .eql 5 a0 (.int .u8 110)).run Tryz.prog w) R fun t11 w =>
  cond t11 (R (.returned (.string ⟨#[80, 65, 50]⟩)) w)
  (opv ((binE true .eql 5 a0 (.int .u8 107)).run Tryz.prog w) R fun t13 w =>
  cond t13 (R (.returned (.string ⟨#[80, 65, 51]⟩)) w)
  (R (.returned (.string ⟨#[]⟩)) w)))))
theorem F41.eq (R : Ending → World → Prop) (w : World) (a0 : Value) : F41 R w a0 = shF Tryz.prog 41 [0,2,3,4,6,8,10,12] [a0] R w := by kernel_rfl
theorem F41.calls {R : Ending → World → Prop} {w : World} {a0 : Value} (h : F41 R w a0) : Calls Tryz.prog 41 #[a0] w R := shF_sound (F41.eq R w a0 ▸ h)

/-- greenscreen/code.backward -/
def F42 (R : Ending → World → Prop) (w : World) (a0 : Value) : Prop :=
  opv ((Instr.makeMap 83 none).run Tryz.prog w) R fun t6 w =>
  join (upd (upd (ini [a0]) 2 (.map none)) 3 t6) (fun j1 =>
  callF Tryz.prog 56 #[a0] w R fun t8 w =>
  loop (upd (upd (upd (upd (ini [a0]) 2 (.map none)) 3 t6) 8 t8) 9 (.int .i64 0)) w fun e2 g2 w j2 =>
  opv ((binOp .lss 3 (g2 9) (.int .i64 256)).run Tryz.prog w) R fun t10 w =>
  cond t10 (join (upd (mix [10,4,5,15,9] g2 e2) 10 t10) (fun j3 =>
  opv ((Instr.index 109 t8 (g2 9)).run Tryz.prog w) R fun t12 w =>
  opv ((convert 3 5 (g2 9)).run Tryz.prog w) R fun t14 w =>
  callF Tryz.prog 57 #[t14] w R fun t15 w =>
  cond t15 (opv ((convert 3 5 (g2 9)).run Tryz.prog w) R fun t19 w =>
  opu ((Instr.mapUpdate 83 t6 t12 t19).run Tryz.prog w) R fun _ w =>
  j3 (upd (upd (upd (upd (mix [10,4,5,15,9] g2 e2) 10 t10) 4 (g2 9)) 5 t12) 15 t15) w)
  (j3 (upd (upd (upd (upd (mix [10,4,5,15,9] g2 e2) 10 t10) 4 (g2 9)) 5 t12) 15 t15) w)) fun e3 g3 w =>
  opv ((binOp .add 3 (g2 9) (.int .i64 1)).run Tryz.prog w) R fun t20 w =>
  j2 (upd (mix [4,5,15] g3 e3) 9 t20) w)
  (j1 (upd (mix [10,4,5,15,9] g2 e2) 10 t10) w)) fun e1 g1 w =>
  R (.returned t6) w
theorem F42.eq (R : Ending → World → Prop) (w : World) (a0 : Value) : F42 R w a0 = shF Tryz.prog 42 [0,2,3,4,5,8,9,10,15] [a0] R w := by kernel_rfl
theorem F42.calls {R : Ending → World → Prop} {w : World} {a0 : Value} (h : F42 R w a0) : Calls Tryz.prog 42 #[a0] w R := shF_sound (F42.eq R w a0 ▸ h)

/-- greenscreen/addr.Cells -/
def F43 (R : Ending → World → Prop) (w : World) (a0 : Value) : Prop :=
  opv ((Instr.box 32 a0).run Tryz.prog w) R fun t1 w =>
  opv ((Instr.fieldAt 32 t1 0).run Tryz.prog w) R fun t4 w =>
  opv ((Instr.loadAt 3 t4).run Tryz.prog w) R fun t5 w =>
  opv ((Instr.fieldAt 32 t1 1).run Tryz.prog w) R fun t6 w =>
  opv ((Instr.loadAt 3 t6).run Tryz.prog w) R fun t7 w =>
  opv ((binOp .mul 3 t5 t7).run Tryz.prog w) R fun t8 w =>
  opv ((Instr.fieldAt 32 t1 0).run Tryz.prog w) R fun t9 w =>
  opv ((Instr.loadAt 3 t9).run Tryz.prog w) R fun t10 w =>
  opv ((binOp .lss 3 t10 (.int .i64 1)).run Tryz.prog w) R fun t11 w =>
  gd t11 false (fun K => opv ((Instr.fieldAt 32 t1 0).run Tryz.prog w) R K) w fun t13 w =>
  gd t11 false (fun K => opv ((Instr.loadAt 3 t13).run Tryz.prog w) R K) w fun t14 w =>
  gd t11 false (fun K => opv ((binOp .gtr 3 t14 (.int .i64 43)).run Tryz.prog w) R K) w fun t15 w =>
  pick t11 (.bool true) t15 w fun t16 w =>
  gd t16 false (fun K => opv ((Instr.fieldAt 32 t1 1).run Tryz.prog w) R K) w fun t18 w =>
  gd t16 false (fun K => opv ((Instr.loadAt 3 t18).run Tryz.prog w) R K) w fun t19 w =>
  gd t16 false (fun K => opv ((binOp .lss 3 t19 (.int .i64 1)).run Tryz.prog w) R K) w fun t20 w =>
  pick t16 (.bool true) t20 w fun t21 w =>
  gd t21 false (fun K => opv ((Instr.fieldAt 32 t1 1).run Tryz.prog w) R K) w fun t23 w =>
  gd t21 false (fun K => opv ((Instr.loadAt 3 t23).run Tryz.prog w) R K) w fun t24 w =>
  gd t21 false (fun K => opv ((binOp .gtr 3 t24 (.int .i64 132)).run Tryz.prog w) R K) w fun t25 w =>
  pick t21 (.bool true) t25 w fun t26 w =>
  gd t26 false (fun K => K t8 w) w fun t28 w =>
  gd t26 false (fun K => opv ((binOp .gtr 3 t28 (.int .i64 4096)).run Tryz.prog w) R K) w fun t29 w =>
  pick t26 (.bool true) t29 w fun t30 w =>
  cond t30 (R (.returned (.int .i64 0)) w)
  (R (.returned t8) w)
theorem F43.eq (R : Ending → World → Prop) (w : World) (a0 : Value) : F43 R w a0 = shF Tryz.prog 43 [0,1,2,3,30] [a0] R w := by kernel_rfl
theorem F43.calls {R : Ending → World → Prop} {w : World} {a0 : Value} (h : F43 R w a0) : Calls Tryz.prog 43 #[a0] w R := shF_sound (F43.eq R w a0 ▸ h)

/-- (*greenscreen/screen.Screen).Clear -/
def F44 (R : Ending → World → Prop) (w : World) (a0 : Value) : Prop :=
  callF Tryz.prog 82 #[a0, (.int .i64 0)] w R fun t3 w =>
  R (.returned (.tuple #[])) w
theorem F44.eq (R : Ending → World → Prop) (w : World) (a0 : Value) : F44 R w a0 = shF Tryz.prog 44 [0] [a0] R w := by kernel_rfl
theorem F44.calls {R : Ending → World → Prop} {w : World} {a0 : Value} (h : F44 R w a0) : Calls Tryz.prog 44 #[a0] w R := shF_sound (F44.eq R w a0 ▸ h)

/-- (*greenscreen/plane.Plane).has -/
def F45 (R : Ending → World → Prop) (w : World) (a0 a1 : Value) : Prop :=
  opv ((binOp .geq 3 a1 (.int .i64 0)).run Tryz.prog w) R fun t6 w =>
  gd t6 true (fun K => K a1 w) w fun t8 w =>
  gd t6 true (fun K => K a0 w) w fun t9 w =>
  gd t6 true (fun K => nilck t9 w K) w fun t10 w =>
  gd t6 true (fun K => opv ((Instr.fieldAt 91 t10 1).run Tryz.prog w) R K) w fun t11 w =>
  gd t6 true (fun K => opv ((Instr.loadAt 52 t11).run Tryz.prog w) R K) w fun t12 w =>
  gd t6 true (fun K => opv ((Builtin.len_ #[52] 3 #[t12]).run Tryz.prog w) R K) w fun t13 w =>
  gd t6 true (fun K => opv ((binOp .lss 3 t8 t13).run Tryz.prog w) R K) w fun t14 w =>
  pick t6 t14 (.bool false) w fun t15 w =>
  R (.returned t15) w
theorem F45.eq (R : Ending → World → Prop) (w : World) (a0 a1 : Value) : F45 R w a0 a1 = shF Tryz.prog 45 [0,1,4] [a0, a1] R w := by kernel_rfl
theorem F45.calls {R : Ending → World → Prop} {w : World} {a0 a1 : Value} (h : F45 R w a0 a1) : Calls Tryz.prog 45 #[a0, a1] w R := shF_sound (F45.eq R w a0 a1 ▸ h)

/-- (*greenscreen/lock.Lock).turn -/
def F46 (R : Ending → World → Prop) (w : World) (a0 a1 a2 : Value) : Prop :=
  join (ini [a0, a1, a2]) (fun j1 =>
  nilck a0 w fun t8 w =>
  opv ((Instr.fieldAt 93 t8 0).run Tryz.prog w) R fun t9 w =>
  opv ((Instr.loadAt 3 t9).run Tryz.prog w) R fun t10 w =>
  opv ((binE false .neq 3 a1 t10).run Tryz.prog w) R fun t11 w =>
  cond t11 (nilck a0 w fun t13 w =>
  opv ((Instr.fieldAt 93 t13 2).run Tryz.prog w) R fun t14 w =>
  opv ((Instr.loadAt 3 t14).run Tryz.prog w) R fun t15 w =>
  opv ((binOp .add 3 t15 (.int .i64 1)).run Tryz.prog w) R fun t16 w =>
  nilck a0 w fun t17 w =>
  opv ((Instr.fieldAt 93 t17 2).run Tryz.prog w) R fun t18 w =>
  opu ((Instr.storeAt 3 t18 t16).run Tryz.prog w) R fun _ w =>
  j1 (upd (ini [a0, a1, a2]) 11 t11) w)
  (j1 (upd (ini [a0, a1, a2]) 11 t11) w)) fun e1 g1 w =>
  nilck a0 w fun t23 w =>
  opv ((Instr.fieldAt 93 t23 0).run Tryz.prog w) R fun t24 w =>
  opu ((Instr.storeAt 3 t24 a1).run Tryz.prog w) R fun _ w =>
  nilck a0 w fun t25 w =>
  opv ((Instr.fieldAt 93 t25 1).run Tryz.prog w) R fun t26 w =>
  opu ((Instr.storeAt 25 t26 a2).run Tryz.prog w) R fun _ w =>
  R (.returned (.tuple #[])) w
theorem F46.eq (R : Ending → World → Prop) (w : World) (a0 a1 a2 : Value) : F46 R w a0 a1 a2 = shF Tryz.prog 46 [0,1,2,11] [a0, a1, a2] R w := by kernel_rfl
theorem F46.calls {R : Ending → World → Prop} {w : World} {a0 a1 a2 : Value} (h : F46 R w a0 a1 a2) : Calls Tryz.prog 46 #[a0, a1, a2] w R := shF_sound (F46.eq R w a0 a1 a2 ▸ h)

/-- greenscreen/keyboard.right -/
def F48 (R : Ending → World → Prop) (w : World) (a0 : Value) : Prop :=
  opv ((Instr.box 45 a0).run Tryz.prog w) R fun t1 w =>
  opv ((Instr.fieldAt 45 t1 0).run Tryz.prog w) R fun t3 w =>
  opv ((Instr.loadAt 3 t3).run Tryz.prog w) R fun t4 w =>
  opv ((binOp .geq 3 t4 (.int .i64 1)).run Tryz.prog w) R fun t5 w =>
  gd t5 true (fun K => opv ((Instr.fieldAt 45 t1 0).run Tryz.prog w) R K) w fun t7 w =>
  gd t5 true (fun K => opv ((Instr.loadAt 3 t7).run Tryz.prog w) R K) w fun t8 w =>
  gd t5 true (fun K => opv ((binOp .lss 3 t8 (.int .i64 17)).run Tryz.prog w) R K) w fun t9 w =>
  pick t5 t9 (.bool false) w fun t10 w =>
  gd t10 false (fun K => opv ((Instr.fieldAt 45 t1 0).run Tryz.prog w) R K) w fun t12 w =>
  gd t10 false (fun K => opv ((Instr.loadAt 3 t12).run Tryz.prog w) R K) w fun t13 w =>
  gd t10 false (fun K => opv ((binE true .eql 3 t13 (.int .i64 17)).run Tryz.prog w) R K) w fun t14 w =>
  gd t10 false (fun K => K t14 w) w fun t15 w =>
  gd t15 true (fun K => opv ((Instr.fieldAt 45 t1 1).run Tryz.prog w) R K) w fun t16 w =>
  gd t15 true (fun K => opv ((Instr.loadAt 5 t16).run Tryz.prog w) R K) w fun t17 w =>
  gd t15 true (fun K => callF Tryz.prog 9 #[t17] w R K) w fun t18 w =>
  gd t10 false (fun K => pick t15 t18 (.bool false) w K) w fun t19 w =>
  pick t10 (.bool true) t19 w fun t20 w =>
  R (.returned t20) w
theorem F48.eq (R : Ending → World → Prop) (w : World) (a0 : Value) : F48 R w a0 = shF Tryz.prog 48 [0,1,2] [a0] R w := by kernel_rfl
theorem F48.calls {R : Ending → World → Prop} {w : World} {a0 : Value} (h : F48 R w a0) : Calls Tryz.prog 48 #[a0] w R := shF_sound (F48.eq R w a0 ▸ h)

/-- (*greenscreen/keyboard.Keyboard).send -/
def F49 (R : Ending → World → Prop) (w : World) (a0 a1 : Value) : Prop :=
  nilck a0 w fun t8 w =>
  opv ((Instr.fieldAt 95 t8 1).run Tryz.prog w) R fun t9 w =>
  callF Tryz.prog 83 #[t9] w R fun t10 w =>
  opv ((binE true .neq 25 t10 (.int .i64 0)).run Tryz.prog w) R fun t12 w =>
  cond t12 (R (.returned (.tuple #[(.bool false), t10])) w)
  (nilck a0 w fun t17 w =>
  opv ((Instr.fieldAt 95 t17 2).run Tryz.prog w) R fun t18 w =>
  opu ((Instr.storeAt 4 t18 (.bool false)).run Tryz.prog w) R fun _ w =>
  nilck a0 w fun t19 w =>
  opv ((Instr.fieldAt 95 t19 3).run Tryz.prog w) R fun t20 w =>
  opu ((Instr.storeAt 5 t20 a1).run Tryz.prog w) R fun _ w =>
  join (upd (upd (upd (upd (ini [a0, a1]) 4 (.bool false)) 5 (.int .i64 0)) 6 t10) 12 t12) (fun j1 =>
  opv ((binE true .eql 5 a1 (.int .u8 109)).run Tryz.prog w) R fun t22 w =>
  cond t22 (nilck a0 w fun t24 w =>
  opv ((Instr.fieldAt 95 t24 0).run Tryz.prog w) R fun t25 w =>
  opv ((Instr.loadAt 28 t25).run Tryz.prog w) R fun t26 w =>
  callF Tryz.prog 44 #[t26] w R fun t27 w =>
  j1 (upd (upd (upd (upd (upd (ini [a0, a1]) 4 (.bool false)) 5 (.int .i64 0)) 6 t10) 12 t12) 22 t22) w)
  (j1 (upd (upd (upd (upd (upd (ini [a0, a1]) 4 (.bool false)) 5 (.int .i64 0)) 6 t10) 12 t12) 22 t22) w)) fun e1 g1 w =>
  R (.returned (.tuple #[(.bool true), (.int .i64 0)])) w)
theorem F49.eq (R : Ending → World → Prop) (w : World) (a0 a1 : Value) : F49 R w a0 a1 = shF Tryz.prog 49 [0,1,4,5,6,12,22] [a0, a1] R w := by kernel_rfl
theorem F49.calls {R : Ending → World → Prop} {w : World} {a0 a1 : Value} (h : F49 R w a0 a1) : Calls Tryz.prog 49 #[a0, a1] w R := shF_sound (F49.eq R w a0 a1 ▸ h)

/-- greenscreen/keyboard.move -/
def F50 (R : Ending → World → Prop) (w : World) (a0 a1 : Value) : Prop :=
  join (upd (ini [a0, a1]) 4 (.bool false)) (fun j1 =>
  opv ((binE true .eql 3 a1 (.int .i64 2)).run Tryz.prog w) R fun t7 w =>
  cond t7 (callF Tryz.prog 84 #[a0] w R fun t9 w =>
  j1 (upd (upd (upd (ini [a0, a1]) 4 (.bool false)) 5 a1) 6 t7) w)
  (opv ((binE true .eql 3 a1 (.int .i64 3)).run Tryz.prog w) R fun t11 w =>
  cond t11 (callF Tryz.prog 85 #[a0] w R fun t13 w =>
  j1 (upd (upd (upd (upd (ini [a0, a1]) 4 (.bool false)) 5 a1) 6 t7) 10 t11) w)
  (opv ((binE true .eql 3 a1 (.int .i64 4)).run Tryz.prog w) R fun t15 w =>
  cond t15 (callF Tryz.prog 86 #[a0] w R fun t17 w =>
  j1 (upd (upd (upd (upd (upd (ini [a0, a1]) 4 (.bool false)) 5 a1) 6 t7) 10 t11) 14 t15) w)
  (opv ((binE true .eql 3 a1 (.int .i64 5)).run Tryz.prog w) R fun t19 w =>
  cond t19 (callF Tryz.prog 87 #[a0] w R fun t21 w =>
  j1 (upd (upd (upd (upd (upd (upd (ini [a0, a1]) 4 (.bool false)) 5 a1) 6 t7) 10 t11) 14 t15) 18 t19) w)
  (opv ((binE true .eql 3 a1 (.int .i64 6)).run Tryz.prog w) R fun t23 w =>
  cond t23 (callF Tryz.prog 88 #[a0, (.int .i64 (-1)), (.int .i64 0)] w R fun t25 w =>
  j1 (upd (upd (upd (upd (upd (upd (upd (ini [a0, a1]) 4 (.bool false)) 5 a1) 6 t7) 10 t11) 14 t15) 18 t19) 22 t23) w)
  (opv ((binE true .eql 3 a1 (.int .i64 7)).run Tryz.prog w) R fun t27 w =>
  cond t27 (callF Tryz.prog 88 #[a0, (.int .i64 1), (.int .i64 0)] w R fun t29 w =>
  j1 (upd (upd (upd (upd (upd (upd (upd (upd (ini [a0, a1]) 4 (.bool false)) 5 a1) 6 t7) 10 t11) 14 t15) 18 t19) 22 t23) 26 t27) w)
  (opv ((binE true .eql 3 a1 (.int .i64 8)).run Tryz.prog w) R fun t31 w =>
  cond t31 (callF Tryz.prog 88 #[a0, (.int .i64 0), (.int .i64 (-1))] w R fun t33 w =>
  j1 (upd (upd (upd (upd (upd (upd (upd (upd (upd (ini [a0, a1]) 4 (.bool false)) 5 a1) 6 t7) 10 t11) 14 t15) 18 t19) 22 t23) 26 t27) 30 t31) w)
  (opv ((binE true .eql 3 a1 (.int .i64 9)).run Tryz.prog w) R fun t35 w =>
  cond t35 (callF Tryz.prog 88 #[a0, (.int .i64 0), (.int .i64 1)] w R fun t37 w =>
  j1 (upd (upd (upd (upd (upd (upd (upd (upd (upd (upd (ini [a0, a1]) 4 (.bool false)) 5 a1) 6 t7) 10 t11) 14 t15) 18 t19) 22 t23) 26 t27) 30 t31) 34 t35) w)
  (R (.returned (.bool false)) w))))))))) fun e1 g1 w =>
  R (.returned (.bool true)) w
theorem F50.eq (R : Ending → World → Prop) (w : World) (a0 a1 : Value) : F50 R w a0 a1 = shF Tryz.prog 50 [0,1,4,5,6,10,14,18,22,26,30,34] [a0, a1] R w := by kernel_rfl
theorem F50.calls {R : Ending → World → Prop} {w : World} {a0 a1 : Value} (h : F50 R w a0 a1) : Calls Tryz.prog 50 #[a0, a1] w R := shF_sound (F50.eq R w a0 a1 ▸ h)

/-- (*greenscreen/lock.Lock).Fail -/
def F51 (R : Ending → World → Prop) (w : World) (a0 a1 : Value) : Prop :=
  callF Tryz.prog 28 #[a0] w R fun t7 w =>
  opv ((binE true .neq 25 t7 (.int .i64 0)).run Tryz.prog w) R fun t9 w =>
  cond t9 (R (.returned t7) w)
  (join (upd (upd (upd (ini [a0, a1]) 4 (.int .i64 0)) 5 t7) 9 t9) (fun j1 =>
  opv ((binE true .neq 25 a1 (.int .i64 0)).run Tryz.prog w) R fun t12 w =>
  cond t12 (callF Tryz.prog 46 #[a0, (.int .i64 3), a1] w R fun t15 w =>
  j1 (upd (upd (upd (upd (ini [a0, a1]) 4 (.int .i64 0)) 5 t7) 9 t9) 12 t12) w)
  (j1 (upd (upd (upd (upd (ini [a0, a1]) 4 (.int .i64 0)) 5 t7) 9 t9) 12 t12) w)) fun e1 g1 w =>
  R (.returned a1) w)
theorem F51.eq (R : Ending → World → Prop) (w : World) (a0 a1 : Value) : F51 R w a0 a1 = shF Tryz.prog 51 [0,1,4,5,9,12] [a0, a1] R w := by kernel_rfl
theorem F51.calls {R : Ending → World → Prop} {w : World} {a0 a1 : Value} (h : F51 R w a0 a1) : Calls Tryz.prog 51 #[a0, a1] w R := shF_sound (F51.eq R w a0 a1 ▸ h)

/-- (*greenscreen/keyboard.Keyboard).edit -/
def F52 (R : Ending → World → Prop) (w : World) (a0 a1 : Value) : Prop :=
  opv ((Instr.box 45 a1).run Tryz.prog w) R fun t3 w =>
  nilck a0 w fun t7 w =>
  opv ((Instr.fieldAt 95 t7 0).run Tryz.prog w) R fun t8 w =>
  opv ((Instr.loadAt 28 t8).run Tryz.prog w) R fun t9 w =>
  callF Tryz.prog 13 #[t9] w R fun t10 w =>
  join (upd (upd (upd (ini [a0, a1]) 3 t3) 4 (.int .i64 0)) 5 t10) (fun j1 =>
  opv ((Instr.fieldAt 45 t3 0).run Tryz.prog w) R fun t11 w =>
  opv ((Instr.loadAt 3 t11).run Tryz.prog w) R fun t12 w =>
  opv ((binE true .eql 3 t12 (.int .i64 1)).run Tryz.prog w) R fun t14 w =>
  cond t14 (drawn w fun T w =>
  qop T w (fun w K => opv ((Instr.fieldAt 45 t3 1).run Tryz.prog w) noR K) fun t16 =>
  qop T w (fun w K => opv ((Instr.loadAt 5 t16).run Tryz.prog w) noR K) fun t17 =>
  qop T w (fun w K => nilck a0 w K) fun t19 =>
  qop T w (fun w K => opv ((Instr.fieldAt 95 t19 2).run Tryz.prog w) noR K) fun t20 =>
  qop T w (fun w K => opv ((Instr.loadAt 4 t20).run Tryz.prog w) noR K) fun t21 =>
  ext w fun w =>
  lop T w (fun w K => callF Tryz.prog 37 #[t10, t17, t21] w R K) fun t22 w =>
  ext w fun w =>
  R (.returned t22) w)
  (opv ((binE true .eql 3 t12 (.int .i64 10)).run Tryz.prog w) R fun t24 w =>
  cond t24 (callF Tryz.prog 89 #[t10] w R fun t26 w =>
  R (.returned t26) w)
  (opv ((binE true .eql 3 t12 (.int .i64 11)).run Tryz.prog w) R fun t28 w =>
  cond t28 (callF Tryz.prog 90 #[t10] w R fun t30 w =>
  j1 (upd (upd (upd (upd (upd (upd (upd (ini [a0, a1]) 3 t3) 4 (.int .i64 0)) 5 t10) 12 t12) 13 t14) 23 t24) 27 t28) w)
  (opv ((binE true .eql 3 t12 (.int .i64 12)).run Tryz.prog w) R fun t32 w =>
  cond t32 (callF Tryz.prog 91 #[t10] w R fun t34 w =>
  R (.returned t34) w)
  (opv ((binE true .eql 3 t12 (.int .i64 13)).run Tryz.prog w) R fun t36 w =>
  cond t36 (nilck a0 w fun t39 w =>
  opv ((Instr.fieldAt 95 t39 2).run Tryz.prog w) R fun t40 w =>
  opv ((Instr.loadAt 4 t40).run Tryz.prog w) R fun t41 w =>
  opv ((Op.unary .not t41).run Tryz.prog w) R fun t42 w =>
  nilck a0 w fun t43 w =>
  opv ((Instr.fieldAt 95 t43 2).run Tryz.prog w) R fun t44 w =>
  opu ((Instr.storeAt 4 t44 t42).run Tryz.prog w) R fun _ w =>
  j1 (upd (upd (upd (upd (upd (upd (upd (upd (upd (ini [a0, a1]) 3 t3) 4 (.int .i64 0)) 5 t10) 12 t12) 13 t14) 23 t24) 27 t28) 31 t32) 35 t36) w)
  (opv ((binE true .eql 3 t12 (.int .i64 14)).run Tryz.prog w) R fun t46 w =>
  cond t46 (nilck a0 w fun t49 w =>
  opv ((Instr.fieldAt 95 t49 2).run Tryz.prog w) R fun t50 w =>
  opv ((Instr.loadAt 4 t50).run Tryz.prog w) R fun t51 w =>
  callF Tryz.prog 92 #[t10, t51] w R fun t52 w =>
  R (.returned t52) w)
  (opv ((binE true .eql 3 t12 (.int .i64 15)).run Tryz.prog w) R fun t54 w =>
  cond t54 (nilck a0 w fun t57 w =>
  opv ((Instr.fieldAt 95 t57 2).run Tryz.prog w) R fun t58 w =>
  opv ((Instr.loadAt 4 t58).run Tryz.prog w) R fun t59 w =>
  callF Tryz.prog 93 #[t10, t59] w R fun t60 w =>
  R (.returned t60) w)
  (j1 (upd (upd (upd (upd (upd (upd (upd (upd (upd (upd (upd (ini [a0, a1]) 3 t3) 4 (.int .i64 0)) 5 t10) 12 t12) 13 t14) 23 t24) 27 t28) 31 t32) 35 t36) 45 t46) 53 t54) w)))))))) fun e1 g1 w =>
  R (.returned (.int .i64 0)) w
theorem F52.eq (R : Ending → World → Prop) (w : World) (a0 a1 : Value) : F52 R w a0 a1 = shF Tryz.prog 52 [0,1,3,4,5,12,13,23,27,31,35,45,53] [a0, a1] R w := by kernel_rfl
theorem F52.calls {R : Ending → World → Prop} {w : World} {a0 a1 : Value} (h : F52 R w a0 a1) : Calls Tryz.prog 52 #[a0, a1] w R := shF_sound (F52.eq R w a0 a1 ▸ h)

/-- (*greenscreen/grammar.reader).inbound -/
def F54 (R : Ending → World → Prop) (w : World) (a0 : Value) : Prop :=
  opv ((Instr.alloc 48 true (.tuple #[])).run Tryz.prog w) R fun t2 w =>
  callF Tryz.prog 95 #[a0] w R fun t5 w =>
  opv ((Instr.build 48 #[(0, t5)]).run Tryz.prog w) R fun t6 w =>
  opv ((Instr.alloc 48 true (.tuple #[])).run Tryz.prog w) R fun t3 w =>
  opu ((Instr.storeAt 48 t3 t6).run Tryz.prog w) R fun _ w =>
  nilck a0 w fun t8 w =>
  opv ((Instr.fieldAt 152 t8 0).run Tryz.prog w) R fun t9 w =>
  opv ((Instr.loadAt 24 t9).run Tryz.prog w) R fun t10 w =>
  opv ((Builtin.len_ #[24] 3 #[t10]).run Tryz.prog w) R fun t11 w =>
  opv ((binE true .eql 3 t11 (.int .i64 0)).run Tryz.prog w) R fun t12 w =>
  cond t12 (opv ((Instr.fieldAt 48 t3 1).run Tryz.prog w) R fun t13 w =>
  opu ((Instr.storeAt 4 t13 (.bool true)).run Tryz.prog w) R fun _ w =>
  opv ((Instr.loadAt 48 t3).run Tryz.prog w) R fun t14 w =>
  opu ((Instr.storeAt 48 t2 t14).run Tryz.prog w) R fun _ w =>
  ldv ((Instr.loadAt 48 t2).run Tryz.prog w) w fun r0 =>
  R (.returned r0) w)
  (callF Tryz.prog 96 #[a0] w R fun t16 w =>
  opv ((Instr.fieldAt 48 t3 2).run Tryz.prog w) R fun t17 w =>
  opu ((Instr.storeAt 3 t17 t16).run Tryz.prog w) R fun _ w =>
  join (upd (upd (upd (ini [a0]) 2 t2) 3 t3) 12 t12) (fun j1 =>
  loop (upd (upd (upd (ini [a0]) 2 t2) 3 t3) 12 t12) w fun e2 g2 w j2 =>
  nilck a0 w fun t19 w =>
  opv ((Instr.fieldAt 152 t19 0).run Tryz.prog w) R fun t20 w =>
  opv ((Instr.loadAt 24 t20).run Tryz.prog w) R fun t21 w =>
  opv ((Builtin.len_ #[24] 3 #[t21]).run Tryz.prog w) R fun t22 w =>
  opv ((binOp .gtr 3 t22 (.int .i64 0)).run Tryz.prog w) R fun t23 w =>
  cond t23 (drawn w fun T w =>
  qop T w (fun w K => opv ((Instr.fieldAt 48 t3 3).run Tryz.prog w) noR K) fun t24 =>
  qop T w (fun w K => opv ((Instr.loadAt 46 t24).run Tryz.prog w) noR K) fun t25 =>
  ext w fun w =>
  lop T w (fun w K => callF Tryz.prog 97 #[a0] w R K) fun t27 w =>
  ext w fun w =>
  lop T w (fun w K => opv ((Instr.buildSlice 46 1 #[(0, t27)]).run Tryz.prog w) R K) fun t28 w =>
  ext w fun w =>
  lop T w (fun w K => opv ((Builtin.append_ #[46, 46] 46 #[t25, t28]).run Tryz.prog w) R K) fun t29 w =>
  qop T w (fun w K => opv ((Instr.fieldAt 48 t3 3).run Tryz.prog w) noR K) fun t30 =>
  ext w fun w =>
  opu ((Instr.storeAt 46 t30 t29).run Tryz.prog w) R fun _ w =>
  ext w fun w =>
  j2 (upd (mix [23] g2 e2) 23 t23) w)
  (j1 (upd (mix [23] g2 e2) 23 t23) w)) fun e1 g1 w =>
  opv ((Instr.loadAt 48 t3).run Tryz.prog w) R fun t31 w =>
  opu ((Instr.storeAt 48 t2 t31).run Tryz.prog w) R fun _ w =>
  ldv ((Instr.loadAt 48 t2).run Tryz.prog w) w fun r0 =>
  R (.returned r0) w)
theorem F54.eq (R : Ending → World → Prop) (w : World) (a0 : Value) : F54 R w a0 = shF Tryz.prog 54 [0,2,3,12,23] [a0] R w := by kernel_rfl
theorem F54.calls {R : Ending → World → Prop} {w : World} {a0 : Value} (h : F54 R w a0) : Calls Tryz.prog 54 #[a0] w R := shF_sound (F54.eq R w a0 ▸ h)

/-- greenscreen/reply.All -/
def F55 (R : Ending → World → Prop) (w : World) (a0 a1 : Value) : Prop :=
  opv ((Instr.buildSlice 24 1 #[(0, a1)]).run Tryz.prog w) R fun t7 w =>
  callF Tryz.prog 24 #[a0] w R fun t10 w =>
  callF Tryz.prog 67 #[a0, t10] w R fun t11 w =>
  opv ((Builtin.append_ #[24, 24] 24 #[t7, t11]).run Tryz.prog w) R fun t12 w =>
  callF Tryz.prog 61 #[a0] w R fun t14 w =>
  cond t14 (callF Tryz.prog 98 #[a0] w R fun t17 w =>
  opv ((Builtin.append_ #[24, 24] 24 #[t12, t17]).run Tryz.prog w) R fun t18 w =>
  R (.returned t18) w)
  (callF Tryz.prog 99 #[a0] w R fun t21 w =>
  opv ((Builtin.append_ #[24, 24] 24 #[t12, t21]).run Tryz.prog w) R fun t22 w =>
  R (.returned t22) w)
theorem F55.eq (R : Ending → World → Prop) (w : World) (a0 a1 : Value) : F55 R w a0 a1 = shF Tryz.prog 55 [0,1,4,5,14] [a0, a1] R w := by kernel_rfl
theorem F55.calls {R : Ending → World → Prop} {w : World} {a0 a1 : Value} (h : F55 R w a0 a1) : Calls Tryz.prog 55 #[a0, a1] w R := shF_sound (F55.eq R w a0 a1 ▸ h)

/-- greenscreen/code.Table -/
def F56 (R : Ending → World → Prop) (w : World) (a0 : Value) : Prop :=
  opv ((Instr.alloc 109 true (.tuple #[])).run Tryz.prog w) R fun t2 w =>
  opv ((Instr.alloc 109 true (.tuple #[])).run Tryz.prog w) R fun t3 w =>
  join (upd (upd (ini [a0]) 2 t2) 3 t3) (fun j1 =>
  callF Tryz.prog 80 #[] w R fun t8 w =>
  loop (upd (upd (upd (upd (ini [a0]) 2 t2) 3 t3) 8 t8) 9 (.int .i64 0)) w fun e2 g2 w j2 =>
  opv ((binOp .lss 3 (g2 9) (.int .i64 256)).run Tryz.prog w) R fun t10 w =>
  cond t10 (opv ((Instr.index 143 t8 (g2 9)).run Tryz.prog w) R fun t12 w =>
  opv ((convert 5 21 t12).run Tryz.prog w) R fun t15 w =>
  opv ((Instr.indexAt 109 t3 (g2 9)).run Tryz.prog w) R fun t16 w =>
  opu ((Instr.storeAt 21 t16 t15).run Tryz.prog w) R fun _ w =>
  opv ((binOp .add 3 (g2 9) (.int .i64 1)).run Tryz.prog w) R fun t17 w =>
  j2 (upd (upd (upd (upd (mix [10,4,5,9] g2 e2) 10 t10) 4 (g2 9)) 5 t12) 9 t17) w)
  (j1 (upd (mix [10,4,5,9] g2 e2) 10 t10) w)) fun e1 g1 w =>
  join (mix [8,10,4,5,9] g1 e1) (fun j3 =>
  callF Tryz.prog 79 #[a0] w R fun t19 w =>
  opv ((Builtin.len_ #[139] 3 #[t19]).run Tryz.prog w) R fun t20 w =>
  loop (upd (upd (upd (mix [8,10,4,5,9] g1 e1) 19 t19) 20 t20) 21 (.int .i64 0)) w fun e4 g4 w j4 =>
  opv ((binOp .lss 3 (g4 21) t20).run Tryz.prog w) R fun t22 w =>
  cond t22 (opv ((Instr.indexAt 139 t19 (g4 21)).run Tryz.prog w) R fun t23 w =>
  opv ((Instr.loadAt 142 t23).run Tryz.prog w) R fun t24 w =>
  opv ((Instr.alloc 142 true (.tuple #[])).run Tryz.prog w) R fun t7 w =>
  opu ((Instr.storeAt 142 t7 t24).run Tryz.prog w) R fun _ w =>
  opv ((Instr.fieldAt 142 t7 0).run Tryz.prog w) R fun t25 w =>
  opv ((Instr.loadAt 5 t25).run Tryz.prog w) R fun t26 w =>
  opv ((Instr.fieldAt 142 t7 1).run Tryz.prog w) R fun t27 w =>
  opv ((Instr.loadAt 5 t27).run Tryz.prog w) R fun t28 w =>
  opv ((convert 5 21 t28).run Tryz.prog w) R fun t29 w =>
  opv ((Instr.indexAt 109 t3 t26).run Tryz.prog w) R fun t30 w =>
  opu ((Instr.storeAt 21 t30 t29).run Tryz.prog w) R fun _ w =>
  opv ((binOp .add 3 (g4 21) (.int .i64 1)).run Tryz.prog w) R fun t31 w =>
  j4 (upd (upd (upd (mix [22,7,21] g4 e4) 22 t22) 7 t7) 21 t31) w)
  (j3 (upd (mix [22,7,21] g4 e4) 22 t22) w)) fun e3 g3 w =>
  opv ((Instr.loadAt 109 t3).run Tryz.prog w) R fun t32 w =>
  opu ((Instr.storeAt 109 t2 t32).run Tryz.prog w) R fun _ w =>
  ldv ((Instr.loadAt 109 t2).run Tryz.prog w) w fun r0 =>
  R (.returned r0) w
theorem F56.eq (R : Ending → World → Prop) (w : World) (a0 : Value) : F56 R w a0 = shF Tryz.prog 56 [0,2,3,4,5,7,8,9,10,19,20,21,22] [a0] R w := by kernel_rfl
theorem F56.calls {R : Ending → World → Prop} {w : World} {a0 : Value} (h : F56 R w a0) : Calls Tryz.prog 56 #[a0] w R := shF_sound (F56.eq R w a0 ▸ h)

/-- greenscreen/code.Graphic -/
def F57 (R : Ending → World → Prop) (w : World) (a0 : Value) : Prop :=
  opv ((binOp .geq 5 a0 (.int .u8 64)).run Tryz.prog w) R fun t4 w =>
  gd t4 true (fun K => K a0 w) w fun t6 w =>
  gd t4 true (fun K => opv ((binOp .leq 5 t6 (.int .u8 254)).run Tryz.prog w) R K) w fun t7 w =>
  pick t4 t7 (.bool false) w fun t8 w =>
  R (.returned t8) w
theorem F57.eq (R : Ending → World → Prop) (w : World) (a0 : Value) : F57 R w a0 = shF Tryz.prog 57 [0,2] [a0] R w := by kernel_rfl
theorem F57.calls {R : Ending → World → Prop} {w : World} {a0 : Value} (h : F57 R w a0) : Calls Tryz.prog 57 #[a0] w R := shF_sound (F57.eq R w a0 ▸ h)

/-- (*strings.Builder).WriteRune -/
def F58 (R : Ending → World → Prop) (w : World) (a0 a1 : Value) : Prop :=
  callF Tryz.prog 100 #[a0] w R fun t8 w =>
  nilck a0 w fun t10 w =>
  opv ((Instr.fieldAt 108 t10 1).run Tryz.prog w) R fun t11 w =>
  opv ((Instr.loadAt 24 t11).run Tryz.prog w) R fun t12 w =>
  opv ((Builtin.len_ #[24] 3 #[t12]).run Tryz.prog w) R fun t13 w =>
  nilck a0 w fun t16 w =>
  opv ((Instr.fieldAt 108 t16 1).run Tryz.prog w) R fun t17 w =>
  opv ((Instr.loadAt 24 t17).run Tryz.prog w) R fun t18 w =>
  callF Tryz.prog 101 #[t18, a1] w R fun t20 w =>
  nilck a0 w fun t21 w =>
  opv ((Instr.fieldAt 108 t21 1).run Tryz.prog w) R fun t22 w =>
  opu ((Instr.storeAt 24 t22 t20).run Tryz.prog w) R fun _ w =>
  nilck a0 w fun t24 w =>
  opv ((Instr.fieldAt 108 t24 1).run Tryz.prog w) R fun t25 w =>
  opv ((Instr.loadAt 24 t25).run Tryz.prog w) R fun t26 w =>
  opv ((Builtin.len_ #[24] 3 #[t26]).run Tryz.prog w) R fun t27 w =>
  opv ((binOp .sub 3 t27 t13).run Tryz.prog w) R fun t29 w =>
  R (.returned (.tuple #[t29, .nilIface])) w
theorem F58.eq (R : Ending → World → Prop) (w : World) (a0 a1 : Value) : F58 R w a0 a1 = shF Tryz.prog 58 [0,1,4,5,6] [a0, a1] R w := by kernel_rfl
theorem F58.calls {R : Ending → World → Prop} {w : World} {a0 a1 : Value} (h : F58 R w a0 a1) : Calls Tryz.prog 58 #[a0, a1] w R := shF_sound (F58.eq R w a0 a1 ▸ h)

/-- (*strings.Builder).WriteByte -/
def F59 (R : Ending → World → Prop) (w : World) (a0 a1 : Value) : Prop :=
  callF Tryz.prog 100 #[a0] w R fun t6 w =>
  nilck a0 w fun t9 w =>
  opv ((Instr.fieldAt 108 t9 1).run Tryz.prog w) R fun t10 w =>
  opv ((Instr.loadAt 24 t10).run Tryz.prog w) R fun t11 w =>
  opv ((Instr.buildSlice 24 1 #[(0, a1)]).run Tryz.prog w) R fun t13 w =>
  opv ((Builtin.append_ #[24, 24] 24 #[t11, t13]).run Tryz.prog w) R fun t14 w =>
  nilck a0 w fun t15 w =>
  opv ((Instr.fieldAt 108 t15 1).run Tryz.prog w) R fun t16 w =>
  opu ((Instr.storeAt 24 t16 t14).run Tryz.prog w) R fun _ w =>
  R (.returned .nilIface) w
theorem F59.eq (R : Ending → World → Prop) (w : World) (a0 a1 : Value) : F59 R w a0 a1 = shF Tryz.prog 59 [0,1,4] [a0, a1] R w := by kernel_rfl
theorem F59.calls {R : Ending → World → Prop} {w : World} {a0 a1 : Value} (h : F59 R w a0 a1) : Calls Tryz.prog 59 #[a0, a1] w R := shF_sound (F59.eq R w a0 a1 ▸ h)

/-- (*strings.Builder).String -/
def F60 (R : Ending → World → Prop) (w : World) (a0 : Value) : Prop :=
  drawn w fun T w =>
  qop T w (fun w K => nilck a0 w K) fun t4 =>
  qop T w (fun w K => opv ((Instr.fieldAt 108 t4 1).run Tryz.prog w) noR K) fun t5 =>
  qop T w (fun w K => opv ((Instr.loadAt 24 t5).run Tryz.prog w) noR K) fun t6 =>
  qop T w (fun w K => nilck a0 w K) fun t9 =>
  qop T w (fun w K => opv ((Instr.fieldAt 108 t9 1).run Tryz.prog w) noR K) fun t10 =>
  qop T w (fun w K => opv ((Instr.loadAt 24 t10).run Tryz.prog w) noR K) fun t11 =>
  qop T w (fun w K => opv ((Builtin.len_ #[24] 3 #[t11]).run Tryz.prog w) noR K) fun t12 =>
  ext w fun w =>
  lop T w (fun w K => opv ((Builtin.unsafeSliceData_ #[24] 156 #[t6]).run Tryz.prog w) R K) fun t7 w =>
  ext w fun w =>
  lop T w (fun w K => opv ((Builtin.unsafeString_ #[156, 3] 9 #[t7, t12]).run Tryz.prog w) R K) fun t13 w =>
  ext w fun w =>
  R (.returned t13) w
theorem F60.eq (R : Ending → World → Prop) (w : World) (a0 : Value) : F60 R w a0 = shF Tryz.prog 60 [0,2] [a0] R w := by kernel_rfl
theorem F60.calls {R : Ending → World → Prop} {w : World} {a0 : Value} (h : F60 R w a0) : Calls Tryz.prog 60 #[a0] w R := shF_sound (F60.eq R w a0 ▸ h)

/-- greenscreen/field.Formatted -/
def F61 (R : Ending → World → Prop) (w : World) (a0 : Value) : Prop :=
  callF Tryz.prog 66 #[a0, (.int .i64 0), (.int .i64 1)] w R fun t4 w =>
  opv ((binOp .geq 3 t4 (.int .i64 0)).run Tryz.prog w) R fun t5 w =>
  R (.returned t5) w
theorem F61.eq (R : Ending → World → Prop) (w : World) (a0 : Value) : F61 R w a0 = shF Tryz.prog 61 [0,2] [a0] R w := by kernel_rfl
theorem F61.calls {R : Ending → World → Prop} {w : World} {a0 : Value} (h : F61 R w a0) : Calls Tryz.prog 61 #[a0] w R := shF_sound (F61.eq R w a0 ▸ h)

/-- greenscreen/field.look -/
def F66 (R : Ending → World → Prop) (w : World) (a0 a1 a2 : Value) : Prop :=
  opv ((binOp .lss 3 a1 (.int .i64 0)).run Tryz.prog w) R fun t10 w =>
  gd t10 false (fun K => K a1 w) w fun t12 w =>
  gd t10 false (fun K => K a0 w) w fun t13 w =>
  gd t10 false (fun K => callF Tryz.prog 30 #[t13] w R K) w fun t14 w =>
  gd t10 false (fun K => opv ((binOp .geq 3 t12 t14).run Tryz.prog w) R K) w fun t15 w =>
  pick t10 (.bool true) t15 w fun t16 w =>
  cond t16 (R (.returned (.int .i64 (-1))) w)
  (join (upd (upd (ini [a0, a1, a2]) 6 (.int .i64 0)) 16 t16) (fun j1 =>
  callF Tryz.prog 30 #[a0] w R fun t18 w =>
  loop (upd (upd (upd (upd (ini [a0, a1, a2]) 6 (.int .i64 0)) 16 t16) 18 t18) 19 (.int .i64 0)) w fun e2 g2 w j2 =>
  opv ((binOp .lss 3 (g2 19) t18).run Tryz.prog w) R fun t20 w =>
  cond t20 (callF Tryz.prog 112 #[a0] w R fun t23 w =>
  opv ((binOp .mul 3 (g2 19) a2).run Tryz.prog w) R fun t27 w =>
  callF Tryz.prog 111 #[t23, a1, t27] w R fun t28 w =>
  callF Tryz.prog 31 #[a0, t28] w R fun t31 w =>
  opv ((Instr.field 37 t31 2).run Tryz.prog w) R fun t32 w =>
  cond t32 (R (.returned t28) w)
  (opv ((binOp .add 3 (g2 19) (.int .i64 1)).run Tryz.prog w) R fun t34 w =>
  j2 (upd (upd (upd (upd (upd (mix [20,7,8,32,6,19] g2 e2) 20 t20) 7 (g2 19)) 8 t28) 32 t32) 19 t34) w))
  (j1 (upd (mix [20,7,8,32,6,19] g2 e2) 20 t20) w)) fun e1 g1 w =>
  R (.returned (.int .i64 (-1))) w)
theorem F66.eq (R : Ending → World → Prop) (w : World) (a0 a1 a2 : Value) : F66 R w a0 a1 a2 = shF Tryz.prog 66 [0,1,2,6,7,8,16,18,19,20,32] [a0, a1, a2] R w := by kernel_rfl
theorem F66.calls {R : Ending → World → Prop} {w : World} {a0 a1 a2 : Value} (h : F66 R w a0 a1 a2) : Calls Tryz.prog 66 #[a0, a1, a2] w R := shF_sound (F66.eq R w a0 a1 a2 ▸ h)

/-- greenscreen/reply.place -/
def F67 (R : Ending → World → Prop) (w : World) (a0 a1 : Value) : Prop :=
  callF Tryz.prog 30 #[a0] w R fun t10 w =>
  callF Tryz.prog 113 #[a1, t10] w R fun t11 w =>
  opv ((Instr.extract t11 0).run Tryz.prog w) R fun t12 w =>
  opv ((Instr.extract t11 1).run Tryz.prog w) R fun t13 w =>
  opv ((Instr.alloc 168 true (.tuple #[])).run Tryz.prog w) R fun t5 w =>
  opu ((Instr.storeAt 168 t5 t12).run Tryz.prog w) R fun _ w =>
  opv ((Instr.sliceAt 168 t5 none none none).run Tryz.prog w) R fun t14 w =>
  R (.returned t14) w
theorem F67.eq (R : Ending → World → Prop) (w : World) (a0 a1 : Value) : F67 R w a0 a1 = shF Tryz.prog 67 [0,1,4,5] [a0, a1] R w := by kernel_rfl
theorem F67.calls {R : Ending → World → Prop} {w : World} {a0 a1 : Value} (h : F67 R w a0 a1) : Calls Tryz.prog 67 #[a0, a1] w R := shF_sound (F67.eq R w a0 a1 ▸ h)

/-- greenscreen/attr.Byte -/
def F68 (R : Ending → World → Prop) (w : World) (a0 : Value) : Prop :=
  opv ((convert 5 3 a0).run Tryz.prog w) R fun t4 w =>
  callF Tryz.prog 114 #[t4] w R fun t5 w =>
  R (.returned t5) w
theorem F68.eq (R : Ending → World → Prop) (w : World) (a0 : Value) : F68 R w a0 = shF Tryz.prog 68 [0,2] [a0] R w := by kernel_rfl
theorem F68.calls {R : Ending → World → Prop} {w : World} {a0 : Value} (h : F68 R w a0) : Calls Tryz.prog 68 #[a0] w R := shF_sound (F68.eq R w a0 ▸ h)

/-- greenscreen/reply.bytes -/
def F69 (R : Ending → World → Prop) (w : World) (a0 : Value) : Prop :=
  opv ((Instr.box 37 a0).run Tryz.prog w) R fun t1 w =>
  opv ((Instr.fieldAt 37 t1 1).run Tryz.prog w) R fun t4 w =>
  opv ((Instr.loadAt 4 t4).run Tryz.prog w) R fun t5 w =>
  gd t5 true (fun K => opv ((Instr.fieldAt 37 t1 0).run Tryz.prog w) R K) w fun t7 w =>
  gd t5 true (fun K => opv ((Instr.loadAt 5 t7).run Tryz.prog w) R K) w fun t8 w =>
  gd t5 true (fun K => opv ((binOp .lss 5 t8 (.int .u8 64)).run Tryz.prog w) R K) w fun t9 w =>
  pick t5 t9 (.bool false) w fun t10 w =>
  cond t10 (opv ((Instr.buildSlice 24 2 #[(0, (.int .u8 8)), (1, (.int .u8 64))]).run Tryz.prog w) R fun t11 w =>
  R (.returned t11) w)
  (opv ((Instr.fieldAt 37 t1 1).run Tryz.prog w) R fun t13 w =>
  opv ((Instr.loadAt 4 t13).run Tryz.prog w) R fun t14 w =>
  cond t14 (opv ((Instr.fieldAt 37 t1 0).run Tryz.prog w) R fun t15 w =>
  opv ((Instr.loadAt 5 t15).run Tryz.prog w) R fun t16 w =>
  opv ((Instr.buildSlice 24 2 #[(0, (.int .u8 8)), (1, t16)]).run Tryz.prog w) R fun t17 w =>
  R (.returned t17) w)
  (opv ((Instr.fieldAt 37 t1 0).run Tryz.prog w) R fun t19 w =>
  opv ((Instr.loadAt 5 t19).run Tryz.prog w) R fun t20 w =>
  callF Tryz.prog 115 #[t20] w R fun t21 w =>
  opv ((Op.unary .not t21).run Tryz.prog w) R fun t22 w =>
  cond t22 (opv ((Instr.buildSlice 24 1 #[(0, (.int .u8 64))]).run Tryz.prog w) R fun t23 w =>
  R (.returned t23) w)
  (opv ((Instr.fieldAt 37 t1 0).run Tryz.prog w) R fun t24 w =>
  opv ((Instr.loadAt 5 t24).run Tryz.prog w) R fun t25 w =>
  opv ((Instr.buildSlice 24 1 #[(0, t25)]).run Tryz.prog w) R fun t26 w =>
  R (.returned t26) w)))
theorem F69.eq (R : Ending → World → Prop) (w : World) (a0 : Value) : F69 R w a0 = shF Tryz.prog 69 [0,1,2,3,12,18] [a0] R w := by kernel_rfl
theorem F69.calls {R : Ending → World → Prop} {w : World} {a0 : Value} (h : F69 R w a0) : Calls Tryz.prog 69 #[a0] w R := shF_sound (F69.eq R w a0 ▸ h)

/-- greenscreen/typing.may -/
def F71 (R : Ending → World → Prop) (w : World) (a0 a1 : Value) : Prop :=
  callF Tryz.prog 24 #[a0] w R fun t10 w =>
  callF Tryz.prog 116 #[a0, t10] w R fun t11 w =>
  opv ((Instr.extract t11 0).run Tryz.prog w) R fun t12 w =>
  opv ((Instr.extract t11 1).run Tryz.prog w) R fun t13 w =>
  opv ((Instr.alloc 173 true (.tuple #[])).run Tryz.prog w) R fun t5 w =>
  opu ((Instr.storeAt 173 t5 t12).run Tryz.prog w) R fun _ w =>
  callF Tryz.prog 24 #[a0] w R fun t17 w =>
  callF Tryz.prog 117 #[a0, t17] w R fun t18 w =>
  opv ((Op.unary .not t18).run Tryz.prog w) R fun t19 w =>
  cond t19 (R (.returned (.int .i64 41)) w)
  (gd t13 true (fun K => opv ((Instr.fieldAt 173 t5 2).run Tryz.prog w) R K) w fun t23 w =>
  gd t13 true (fun K => opv ((Instr.loadAt 5 t23).run Tryz.prog w) R K) w fun t24 w =>
  gd t13 true (fun K => callF Tryz.prog 118 #[t24] w R K) w fun t25 w =>
  pick t13 t25 (.bool false) w fun t26 w =>
  gd t26 true (fun K => K a1 w) w fun t28 w =>
  gd t26 true (fun K => callF Tryz.prog 119 #[t28] w R K) w fun t29 w =>
  gd t26 true (fun K => opv ((Op.unary .not t29).run Tryz.prog w) R K) w fun t30 w =>
  pick t26 t30 (.bool false) w fun t31 w =>
  cond t31 (R (.returned (.int .i64 42)) w)
  (R (.returned (.int .i64 0)) w))
theorem F71.eq (R : Ending → World → Prop) (w : World) (a0 a1 : Value) : F71 R w a0 a1 = shF Tryz.prog 71 [0,1,4,5,6,14,20] [a0, a1] R w := by kernel_rfl
theorem F71.calls {R : Ending → World → Prop} {w : World} {a0 a1 : Value} (h : F71 R w a0 a1) : Calls Tryz.prog 71 #[a0, a1] w R := shF_sound (F71.eq R w a0 a1 ▸ h)

/-- greenscreen/field.Mark -/
def F73 (R : Ending → World → Prop) (w : World) (a0 a1 : Value) : Prop :=
  callF Tryz.prog 29 #[a0, a1] w R fun t8 w =>
  opv ((binOp .lss 3 t8 (.int .i64 0)).run Tryz.prog w) R fun t10 w =>
  cond t10 (R (.returned (.bool false)) w)
  (callF Tryz.prog 123 #[a0, t8, (.bool true)] w R fun t13 w =>
  R (.returned (.bool true)) w)
theorem F73.eq (R : Ending → World → Prop) (w : World) (a0 a1 : Value) : F73 R w a0 a1 = shF Tryz.prog 73 [0,1,4,5,10] [a0, a1] R w := by kernel_rfl
theorem F73.calls {R : Ending → World → Prop} {w : World} {a0 a1 : Value} (h : F73 R w a0 a1) : Calls Tryz.prog 73 #[a0, a1] w R := shF_sound (F73.eq R w a0 a1 ▸ h)

/-- greenscreen/caret.On -/
def F74 (R : Ending → World → Prop) (w : World) (a0 : Value) : Prop :=
  callF Tryz.prog 24 #[a0] w R fun t8 w =>
  callF Tryz.prog 125 #[a0, t8, (.int .i64 1)] w R fun t9 w =>
  callF Tryz.prog 124 #[a0, t9] w R fun t10 w =>
  callF Tryz.prog 31 #[a0, t10] w R fun t13 w =>
  opv ((Instr.alloc 37 true (.tuple #[])).run Tryz.prog w) R fun t4 w =>
  opu ((Instr.storeAt 37 t4 t13).run Tryz.prog w) R fun _ w =>
  opv ((Instr.fieldAt 37 t4 2).run Tryz.prog w) R fun t15 w =>
  opv ((Instr.loadAt 4 t15).run Tryz.prog w) R fun t16 w =>
  gd t16 true (fun K => opv ((Instr.fieldAt 37 t4 0).run Tryz.prog w) R K) w fun t18 w =>
  gd t16 true (fun K => opv ((Instr.loadAt 5 t18).run Tryz.prog w) R K) w fun t19 w =>
  gd t16 true (fun K => callF Tryz.prog 126 #[t19] w R K) w fun t20 w =>
  pick t16 t20 (.bool false) w fun t21 w =>
  cond t21 (callF Tryz.prog 84 #[a0] w R fun t23 w =>
  R (.returned t23) w)
  (opv ((Instr.fieldAt 37 t4 2).run Tryz.prog w) R fun t25 w =>
  opv ((Instr.loadAt 4 t25).run Tryz.prog w) R fun t26 w =>
  cond t26 (callF Tryz.prog 125 #[a0, t10, (.int .i64 1)] w R fun t30 w =>
  callF Tryz.prog 124 #[a0, t30] w R fun t31 w =>
  R (.returned t31) w)
  (R (.returned t10) w))
theorem F74.eq (R : Ending → World → Prop) (w : World) (a0 : Value) : F74 R w a0 = shF Tryz.prog 74 [0,2,3,4,14,24] [a0] R w := by kernel_rfl
theorem F74.calls {R : Ending → World → Prop} {w : World} {a0 : Value} (h : F74 R w a0) : Calls Tryz.prog 74 #[a0] w R := shF_sound (F74.eq R w a0 ▸ h)

/-- greenscreen/grammar.name -/
def F75 (R : Ending → World → Prop) (w : World) (a0 : Value) : Prop :=
  opv ((Instr.build 45 #[(0, (.int .i64 17)), (1, a0)]).run Tryz.prog w) R fun t5 w =>
  callF Tryz.prog 127 #[t5] w R fun t6 w =>
  opv ((binE true .neq 9 t6 (.string ⟨#[]⟩)).run Tryz.prog w) R fun t8 w =>
  cond t8 (R (.returned t6) w)
  (drawn w fun T w =>
  qop T w (fun w K => opv ((binOp .shr 5 a0 (.int .u64 4)).run Tryz.prog w) noR K) fun t11 =>
  qop T w (fun w K => opv ((binOp .shr 5 a0 (.int .u64 4)).run Tryz.prog w) noR K) fun t13 =>
  qop T w (fun w K => opv ((binOp .add 5 t13 (.int .u8 1)).run Tryz.prog w) noR K) fun t14 =>
  qop T w (fun w K => opv ((Instr.sliceAt 9 (.string ⟨#[48, 49, 50, 51, 52, 53, 54, 55, 56, 57, 65, 66, 67, 68, 69, 70]⟩) (some t11) (some t14) none).run Tryz.prog w) noR K) fun t15 =>
  qop T w (fun w K => opv ((binOp .and 5 a0 (.int .u8 15)).run Tryz.prog w) noR K) fun t17 =>
  qop T w (fun w K => opv ((binOp .and 5 a0 (.int .u8 15)).run Tryz.prog w) noR K) fun t19 =>
  qop T w (fun w K => opv ((binOp .add 5 t19 (.int .u8 1)).run Tryz.prog w) noR K) fun t20 =>
  qop T w (fun w K => opv ((Instr.sliceAt 9 (.string ⟨#[48, 49, 50, 51, 52, 53, 54, 55, 56, 57, 65, 66, 67, 68, 69, 70]⟩) (some t17) (some t20) none).run Tryz.prog w) noR K) fun t21 =>
  qop T w (fun w K => opv ((binOp .add 9 t15 t21).run Tryz.prog w) noR K) fun t22 =>
  ext w fun w =>
  R (.returned t22) w)
theorem F75.eq (R : Ending → World → Prop) (w : World) (a0 : Value) : F75 R w a0 = shF Tryz.prog 75 [0,2,3,8] [a0] R w := by kernel_rfl
theorem F75.calls {R : Ending → World → Prop} {w : World} {a0 : Value} (h : F75 R w a0) : Calls Tryz.prog 75 #[a0] w R := shF_sound (F75.eq R w a0 ▸ h)

/-- (*strings.Builder).WriteString -/
def F76 (R : Ending → World → Prop) (w : World) (a0 a1 : Value) : Prop :=
  callF Tryz.prog 100 #[a0] w R fun t7 w =>
  nilck a0 w fun t10 w =>
  opv ((Instr.fieldAt 108 t10 1).run Tryz.prog w) R fun t11 w =>
  opv ((Instr.loadAt 24 t11).run Tryz.prog w) R fun t12 w =>
  opv ((Builtin.append_ #[24, 9] 24 #[t12, a1]).run Tryz.prog w) R fun t14 w =>
  nilck a0 w fun t15 w =>
  opv ((Instr.fieldAt 108 t15 1).run Tryz.prog w) R fun t16 w =>
  opu ((Instr.storeAt 24 t16 t14).run Tryz.prog w) R fun _ w =>
  opv ((Builtin.len_ #[9] 3 #[a1]).run Tryz.prog w) R fun t18 w =>
  R (.returned (.tuple #[t18, .nilIface])) w
theorem F76.eq (R : Ending → World → Prop) (w : World) (a0 a1 : Value) : F76 R w a0 a1 = shF Tryz.prog 76 [0,1,4,5] [a0, a1] R w := by kernel_rfl
theorem F76.calls {R : Ending → World → Prop} {w : World} {a0 a1 : Value} (h : F76 R w a0 a1) : Calls Tryz.prog 76 #[a0, a1] w R := shF_sound (F76.eq R w a0 a1 ▸ h)

/-- strconv.Itoa -/
def F77 (R : Ending → World → Prop) (w : World) (a0 : Value) : Prop :=
  callF Tryz.prog 128 #[a0] w R fun t4 w =>
  R (.returned t4) w
theorem F77.eq (R : Ending → World → Prop) (w : World) (a0 : Value) : F77 R w a0 = shF Tryz.prog 77 [0,2] [a0] R w := by kernel_rfl
theorem F77.calls {R : Ending → World → Prop} {w : World} {a0 : Value} (h : F77 R w a0) : Calls Tryz.prog 77 #[a0] w R := shF_sound (F77.eq R w a0 ▸ h)

/-- greenscreen/grammar.sign -/
def F78 (R : Ending → World → Prop) (w : World) (a0 a1 : Value) : Prop :=
  opv ((Instr.box 37 a1).run Tryz.prog w) R fun t3 w =>
  opv ((Instr.fieldAt 37 t3 2).run Tryz.prog w) R fun t6 w =>
  opv ((Instr.loadAt 4 t6).run Tryz.prog w) R fun t7 w =>
  gd t7 false (fun K => opv ((Instr.fieldAt 37 t3 1).run Tryz.prog w) R K) w fun t9 w =>
  gd t7 false (fun K => opv ((Instr.loadAt 4 t9).run Tryz.prog w) R K) w fun t10 w =>
  gd t7 false (fun K => opv ((Op.unary .not t10).run Tryz.prog w) R K) w fun t11 w =>
  gd t7 false (fun K => K t11 w) w fun t12 w =>
  gd t12 true (fun K => opv ((Instr.fieldAt 37 t3 0).run Tryz.prog w) R K) w fun t13 w =>
  gd t12 true (fun K => opv ((Instr.loadAt 5 t13).run Tryz.prog w) R K) w fun t14 w =>
  gd t12 true (fun K => callF Tryz.prog 57 #[t14] w R K) w fun t15 w =>
  gd t12 true (fun K => opv ((Op.unary .not t15).run Tryz.prog w) R K) w fun t16 w =>
  gd t7 false (fun K => pick t12 t16 (.bool false) w K) w fun t17 w =>
  pick t7 (.bool true) t17 w fun t18 w =>
  cond t18 (R (.returned (.string ⟨#[32]⟩)) w)
  (opv ((Instr.fieldAt 37 t3 1).run Tryz.prog w) R fun t20 w =>
  opv ((Instr.loadAt 4 t20).run Tryz.prog w) R fun t21 w =>
  cond t21 (opv ((Instr.fieldAt 37 t3 0).run Tryz.prog w) R fun t22 w =>
  opv ((Instr.loadAt 5 t22).run Tryz.prog w) R fun t23 w =>
  callF Tryz.prog 129 #[t23] w R fun t24 w =>
  opv ((convert 21 9 t24).run Tryz.prog w) R fun t25 w =>
  R (.returned t25) w)
  (opv ((Instr.fieldAt 37 t3 0).run Tryz.prog w) R fun t27 w =>
  opv ((Instr.loadAt 5 t27).run Tryz.prog w) R fun t28 w =>
  callF Tryz.prog 39 #[a0, t28] w R fun t29 w =>
  opv ((convert 21 9 t29).run Tryz.prog w) R fun t30 w =>
  R (.returned t30) w))
theorem F78.eq (R : Ending → World → Prop) (w : World) (a0 a1 : Value) : F78 R w a0 a1 = shF Tryz.prog 78 [0,1,3,4,5,19] [a0, a1] R w := by kernel_rfl
theorem F78.calls {R : Ending → World → Prop} {w : World} {a0 a1 : Value} (h : F78 R w a0 a1) : Calls Tryz.prog 78 #[a0, a1] w R := shF_sound (F78.eq R w a0 a1 ▸ h)

/-- greenscreen/code.swaps -/
def F79 (R : Ending → World → Prop) (w : World) (a0 : Value) : Prop :=
  opv ((binE true .eql 3 a0 (.int .i64 500)).run Tryz.prog w) R fun t5 w =>
  cond t5 (opv ((Instr.build 142 #[(0, (.int .u8 74)), (1, (.int .u8 91))]).run Tryz.prog w) R fun t6 w =>
  opv ((Instr.build 142 #[(0, (.int .u8 79)), (1, (.int .u8 33))]).run Tryz.prog w) R fun t7 w =>
  opv ((Instr.build 142 #[(0, (.int .u8 90)), (1, (.int .u8 93))]).run Tryz.prog w) R fun t8 w =>
  opv ((Instr.build 142 #[(0, (.int .u8 95)), (1, (.int .u8 94))]).run Tryz.prog w) R fun t9 w =>
  opv ((Instr.build 142 #[(0, (.int .u8 176)), (1, (.int .u8 162))]).run Tryz.prog w) R fun t10 w =>
  opv ((Instr.build 142 #[(0, (.int .u8 186)), (1, (.int .u8 172))]).run Tryz.prog w) R fun t11 w =>
  opv ((Instr.build 142 #[(0, (.int .u8 187)), (1, (.int .u8 124))]).run Tryz.prog w) R fun t12 w =>
  opv ((Instr.buildSlice 139 7 #[(0, t6), (1, t7), (2, t8), (3, t9), (4, t10), (5, t11), (6, t12)]).run Tryz.prog w) R fun t13 w =>
  R (.returned t13) w)
  (opv ((binE true .eql 3 a0 (.int .i64 1047)).run Tryz.prog w) R fun t15 w =>
  cond t15 (opv ((Instr.build 142 #[(0, (.int .u8 95)), (1, (.int .u8 94))]).run Tryz.prog w) R fun t16 w =>
  opv ((Instr.build 142 #[(0, (.int .u8 173)), (1, (.int .u8 91))]).run Tryz.prog w) R fun t17 w =>
  opv ((Instr.build 142 #[(0, (.int .u8 176)), (1, (.int .u8 172))]).run Tryz.prog w) R fun t18 w =>
  opv ((Instr.build 142 #[(0, (.int .u8 186)), (1, (.int .u8 221))]).run Tryz.prog w) R fun t19 w =>
  opv ((Instr.build 142 #[(0, (.int .u8 187)), (1, (.int .u8 168))]).run Tryz.prog w) R fun t20 w =>
  opv ((Instr.build 142 #[(0, (.int .u8 189)), (1, (.int .u8 93))]).run Tryz.prog w) R fun t21 w =>
  opv ((Instr.buildSlice 139 6 #[(0, t16), (1, t17), (2, t18), (3, t19), (4, t20), (5, t21)]).run Tryz.prog w) R fun t22 w =>
  R (.returned t22) w)
  (R (.returned (.slice none 0 0)) w))
theorem F79.eq (R : Ending → World → Prop) (w : World) (a0 : Value) : F79 R w a0 = shF Tryz.prog 79 [0,2,3,4,14] [a0] R w := by kernel_rfl
theorem F79.calls {R : Ending → World → Prop} {w : World} {a0 : Value} (h : F79 R w a0) : Calls Tryz.prog 79 #[a0] w R := shF_sound (F79.eq R w a0 ▸ h)

/-- greenscreen/keyboard.function -/
def F81 (R : Ending → World → Prop) (w : World) (a0 : Value) : Prop :=
  join (upd (upd (ini [a0]) 2 (.int .i64 0)) 3 (.int .i64 0)) (fun j1 =>
  opv ((binOp .geq 5 a0 (.int .u8 241)).run Tryz.prog w) R fun t6 w =>
  gd t6 true (fun K => K a0 w) w fun t8 w =>
  gd t6 true (fun K => opv ((binOp .leq 5 t8 (.int .u8 249)).run Tryz.prog w) R K) w fun t9 w =>
  pick t6 t9 (.bool false) w fun t10 w =>
  cond t10 (opv ((binOp .sub 5 a0 (.int .u8 240)).run Tryz.prog w) R fun t12 w =>
  opv ((convert 5 3 t12).run Tryz.prog w) R fun t13 w =>
  j1 (upd (upd (upd (upd (ini [a0]) 2 (.int .i64 0)) 3 (.int .i64 0)) 4 t10) 3 t13) w)
  (opv ((binOp .geq 5 a0 (.int .u8 122)).run Tryz.prog w) R fun t16 w =>
  gd t16 true (fun K => K a0 w) w fun t18 w =>
  gd t16 true (fun K => opv ((binOp .leq 5 t18 (.int .u8 124)).run Tryz.prog w) R K) w fun t19 w =>
  pick t16 t19 (.bool false) w fun t20 w =>
  cond t20 (opv ((binOp .sub 5 a0 (.int .u8 122)).run Tryz.prog w) R fun t22 w =>
  opv ((convert 5 3 t22).run Tryz.prog w) R fun t23 w =>
  opv ((binOp .add 3 t23 (.int .i64 10)).run Tryz.prog w) R fun t24 w =>
  j1 (upd (upd (upd (upd (upd (ini [a0]) 2 (.int .i64 0)) 3 (.int .i64 0)) 4 t10) 14 t20) 3 t24) w)
  (opv ((binOp .geq 5 a0 (.int .u8 193)).run Tryz.prog w) R fun t27 w =>
  gd t27 true (fun K => K a0 w) w fun t29 w =>
  gd t27 true (fun K => opv ((binOp .leq 5 t29 (.int .u8 201)).run Tryz.prog w) R K) w fun t30 w =>
  pick t27 t30 (.bool false) w fun t31 w =>
  cond t31 (opv ((binOp .sub 5 a0 (.int .u8 192)).run Tryz.prog w) R fun t33 w =>
  opv ((convert 5 3 t33).run Tryz.prog w) R fun t34 w =>
  opv ((binOp .add 3 t34 (.int .i64 12)).run Tryz.prog w) R fun t35 w =>
  j1 (upd (upd (upd (upd (upd (upd (ini [a0]) 2 (.int .i64 0)) 3 (.int .i64 0)) 4 t10) 14 t20) 25 t31) 3 t35) w)
  (opv ((binOp .geq 5 a0 (.int .u8 74)).run Tryz.prog w) R fun t38 w =>
  gd t38 true (fun K => K a0 w) w fun t40 w =>
  gd t38 true (fun K => opv ((binOp .leq 5 t40 (.int .u8 76)).run Tryz.prog w) R K) w fun t41 w =>
  pick t38 t41 (.bool false) w fun t42 w =>
  cond t42 (opv ((binOp .sub 5 a0 (.int .u8 74)).run Tryz.prog w) R fun t44 w =>
  opv ((convert 5 3 t44).run Tryz.prog w) R fun t45 w =>
  opv ((binOp .add 3 t45 (.int .i64 22)).run Tryz.prog w) R fun t46 w =>
  j1 (upd (upd (upd (upd (upd (upd (upd (ini [a0]) 2 (.int .i64 0)) 3 (.int .i64 0)) 4 t10) 14 t20) 25 t31) 36 t42) 3 t46) w)
  (j1 (upd (upd (upd (upd (upd (upd (ini [a0]) 2 (.int .i64 0)) 3 (.int .i64 0)) 4 t10) 14 t20) 25 t31) 36 t42) w))))) fun e1 g1 w =>
  R (.returned (g1 3)) w
theorem F81.eq (R : Ending → World → Prop) (w : World) (a0 : Value) : F81 R w a0 = shF Tryz.prog 81 [0,2,3,4,14,25,36] [a0] R w := by kernel_rfl
theorem F81.calls {R : Ending → World → Prop} {w : World} {a0 : Value} (h : F81 R w a0) : Calls Tryz.prog 81 #[a0] w R := shF_sound (F81.eq R w a0 ▸ h)

/-- (*greenscreen/screen.Screen).renew -/
def F82 (R : Ending → World → Prop) (w : World) (a0 a1 : Value) : Prop :=
  nilck a0 w fun t6 w =>
  opv ((Instr.fieldAt 89 t6 1).run Tryz.prog w) R fun t7 w =>
  opu ((Instr.storeAt 3 t7 a1).run Tryz.prog w) R fun _ w =>
  nilck a0 w fun t12 w =>
  opv ((Instr.fieldAt 89 t12 0).run Tryz.prog w) R fun t13 w =>
  opv ((Instr.indexAt 87 t13 a1).run Tryz.prog w) R fun t14 w =>
  opv ((Instr.loadAt 32 t14).run Tryz.prog w) R fun t15 w =>
  callF Tryz.prog 33 #[t15] w R fun t16 w =>
  opv ((Instr.extract t16 0).run Tryz.prog w) R fun t17 w =>
  opv ((Instr.extract t16 1).run Tryz.prog w) R fun t18 w =>
  nilck a0 w fun t19 w =>
  opv ((Instr.fieldAt 89 t19 2).run Tryz.prog w) R fun t20 w =>
  opu ((Instr.storeAt 33 t20 t17).run Tryz.prog w) R fun _ w =>
  R (.returned (.tuple #[])) w
theorem F82.eq (R : Ending → World → Prop) (w : World) (a0 a1 : Value) : F82 R w a0 a1 = shF Tryz.prog 82 [0,1] [a0, a1] R w := by kernel_rfl
theorem F82.calls {R : Ending → World → Prop} {w : World} {a0 a1 : Value} (h : F82 R w a0 a1) : Calls Tryz.prog 82 #[a0, a1] w R := shF_sound (F82.eq R w a0 a1 ▸ h)

/-- (*greenscreen/lock.Lock).Send -/
def F83 (R : Ending → World → Prop) (w : World) (a0 : Value) : Prop :=
  callF Tryz.prog 28 #[a0] w R fun t5 w =>
  opv ((binE true .neq 25 t5 (.int .i64 0)).run Tryz.prog w) R fun t7 w =>
  cond t7 (R (.returned t5) w)
  (callF Tryz.prog 46 #[a0, (.int .i64 2), (.int .i64 0)] w R fun t10 w =>
  R (.returned (.int .i64 0)) w)
theorem F83.eq (R : Ending → World → Prop) (w : World) (a0 : Value) : F83 R w a0 = shF Tryz.prog 83 [0,2,3,7] [a0] R w := by kernel_rfl
theorem F83.calls {R : Ending → World → Prop} {w : World} {a0 : Value} (h : F83 R w a0) : Calls Tryz.prog 83 #[a0] w R := shF_sound (F83.eq R w a0 ▸ h)

/-- greenscreen/caret.Home -/
def F87 (R : Ending → World → Prop) (w : World) (a0 : Value) : Prop :=
  callF Tryz.prog 133 #[a0] w R fun t5 w =>
  callF Tryz.prog 124 #[a0, t5] w R fun t6 w =>
  R (.returned t6) w
theorem F87.eq (R : Ending → World → Prop) (w : World) (a0 : Value) : F87 R w a0 = shF Tryz.prog 87 [0,2] [a0] R w := by kernel_rfl
theorem F87.calls {R : Ending → World → Prop} {w : World} {a0 : Value} (h : F87 R w a0) : Calls Tryz.prog 87 #[a0] w R := shF_sound (F87.eq R w a0 ▸ h)

/-- (*greenscreen/grammar.reader).next -/
def F95 (R : Ending → World → Prop) (w : World) (a0 : Value) : Prop :=
  join (upd (ini [a0]) 2 (.int .u8 0)) (fun j1 =>
  nilck a0 w fun t5 w =>
  opv ((Instr.fieldAt 152 t5 0).run Tryz.prog w) R fun t6 w =>
  opv ((Instr.loadAt 24 t6).run Tryz.prog w) R fun t7 w =>
  opv ((Builtin.len_ #[24] 3 #[t7]).run Tryz.prog w) R fun t8 w =>
  opv ((binE true .eql 3 t8 (.int .i64 0)).run Tryz.prog w) R fun t9 w =>
  cond t9 (opv ((Instr.build 149 #[(0, (.int .i64 20))]).run Tryz.prog w) R fun t10 w =>
  opv ((Instr.makeInterface 149 t10).run Tryz.prog w) R fun t11 w =>
  opv ((Instr.panic t11).run Tryz.prog w) R fun _ w =>
  j1 (upd (upd (ini [a0]) 2 (.int .u8 0)) 9 t9) w)
  (j1 (upd (upd (ini [a0]) 2 (.int .u8 0)) 9 t9) w)) fun e1 g1 w =>
  nilck a0 w fun t13 w =>
  opv ((Instr.fieldAt 152 t13 0).run Tryz.prog w) R fun t14 w =>
  opv ((Instr.loadAt 24 t14).run Tryz.prog w) R fun t15 w =>
  opv ((Instr.indexAt 24 t15 (.int .i64 0)).run Tryz.prog w) R fun t16 w =>
  opv ((Instr.loadAt 5 t16).run Tryz.prog w) R fun t17 w =>
  nilck a0 w fun t20 w =>
  opv ((Instr.fieldAt 152 t20 0).run Tryz.prog w) R fun t21 w =>
  opv ((Instr.loadAt 24 t21).run Tryz.prog w) R fun t22 w =>
  opv ((Instr.sliceAt 24 t22 (some (.int .i64 1)) none none).run Tryz.prog w) R fun t23 w =>
  nilck a0 w fun t24 w =>
  opv ((Instr.fieldAt 152 t24 0).run Tryz.prog w) R fun t25 w =>
  opu ((Instr.storeAt 24 t25 t23).run Tryz.prog w) R fun _ w =>
  R (.returned t17) w
theorem F95.eq (R : Ending → World → Prop) (w : World) (a0 : Value) : F95 R w a0 = shF Tryz.prog 95 [0,2,3,9] [a0] R w := by kernel_rfl
theorem F95.calls {R : Ending → World → Prop} {w : World} {a0 : Value} (h : F95 R w a0) : Calls Tryz.prog 95 #[a0] w R := shF_sound (F95.eq R w a0 ▸ h)

/-- (*greenscreen/grammar.reader).place -/
def F96 (R : Ending → World → Prop) (w : World) (a0 : Value) : Prop :=
  callF Tryz.prog 95 #[a0] w R fun t5 w =>
  callF Tryz.prog 95 #[a0] w R fun t8 w =>
  callF Tryz.prog 138 #[t5, t8] w R fun t9 w =>
  R (.returned t9) w
theorem F96.eq (R : Ending → World → Prop) (w : World) (a0 : Value) : F96 R w a0 = shF Tryz.prog 96 [0,2,3] [a0] R w := by kernel_rfl
theorem F96.calls {R : Ending → World → Prop} {w : World} {a0 : Value} (h : F96 R w a0) : Calls Tryz.prog 96 #[a0] w R := shF_sound (F96.eq R w a0 ▸ h)

/-- (*greenscreen/grammar.reader).item -/
def F97 (R : Ending → World → Prop) (w : World) (a0 : Value) : Prop :=
  opv ((Instr.alloc 54 true (.tuple #[])).run Tryz.prog w) R fun t2 w =>
  join (upd (upd (ini [a0]) 2 t2) 3 (.int .i64 (-1))) (fun j1 =>
  nilck a0 w fun t5 w =>
  opv ((Instr.fieldAt 152 t5 0).run Tryz.prog w) R fun t6 w =>
  opv ((Instr.loadAt 24 t6).run Tryz.prog w) R fun t7 w =>
  opv ((Instr.indexAt 24 t7 (.int .i64 0)).run Tryz.prog w) R fun t8 w =>
  opv ((Instr.loadAt 5 t8).run Tryz.prog w) R fun t9 w =>
  opv ((binE true .eql 5 t9 (.int .u8 17)).run Tryz.prog w) R fun t10 w =>
  cond t10 (callF Tryz.prog 95 #[a0] w R fun t12 w =>
  callF Tryz.prog 96 #[a0] w R fun t14 w =>
  j1 (upd (upd (upd (upd (ini [a0]) 2 t2) 3 (.int .i64 (-1))) 10 t10) 3 t14) w)
  (j1 (upd (upd (upd (ini [a0]) 2 t2) 3 (.int .i64 (-1))) 10 t10) w)) fun e1 g1 w =>
  callF Tryz.prog 139 #[a0] w R fun t17 w =>
  opv ((Instr.build 54 #[(0, (g1 3)), (1, t17)]).run Tryz.prog w) R fun t18 w =>
  opu ((Instr.storeAt 54 t2 t18).run Tryz.prog w) R fun _ w =>
  ldv ((Instr.loadAt 54 t2).run Tryz.prog w) w fun r0 =>
  R (.returned r0) w
theorem F97.eq (R : Ending → World → Prop) (w : World) (a0 : Value) : F97 R w a0 = shF Tryz.prog 97 [0,2,3,10] [a0] R w := by kernel_rfl
theorem F97.calls {R : Ending → World → Prop} {w : World} {a0 : Value} (h : F97 R w a0) : Calls Tryz.prog 97 #[a0] w R := shF_sound (F97.eq R w a0 ▸ h)

/-- greenscreen/reply.fields -/
def F98 (R : Ending → World → Prop) (w : World) (a0 : Value) : Prop :=
  opv ((Instr.box 33 a0).run Tryz.prog w) (noP R) fun t1 w =>
  opv ((Instr.alloc 24 true (.tuple #[])).run Tryz.prog w) (noP R) fun t3 w =>
  join (upd (upd (upd (ini [a0]) 1 t1) 2 (.slice none 0 0)) 3 t3) (fun j1 =>
  opv ((Instr.loadAt 33 t1).run Tryz.prog w) (noP R) fun t7 w =>
  callF Tryz.prog 135 #[t7] w (noP R) fun t8 w =>
  rangeF Tryz.prog t8 1 w (fun l2 xs2 w mid2 fin2 =>
  opv ((Instr.alloc 173 true (.tuple #[])).run Tryz.prog w) noR fun t4 w =>
  opu ((Instr.storeAt 173 t4 (xs2.getD 0 undef)).run Tryz.prog w) noR fun _ w =>
  mid2 (fun w => opv ((Instr.fieldAt 173 t4 2).run Tryz.prog w) noR fun t10 w =>
  opv ((Instr.loadAt 5 t10).run Tryz.prog w) noR fun t11 w =>
  callF Tryz.prog 140 #[t11] w noR fun t12 w =>
  opv ((Op.unary .not t12).run Tryz.prog w) noR fun t13 w =>
  cond t13 (fin2 .normal w)
  (drawn w fun T w =>
  qop T w (fun w K => opv ((Instr.loadAt 24 t3).run Tryz.prog w) noR K) fun t14 =>
  qop T w (fun w K => opv ((Instr.loadAt 33 t1).run Tryz.prog w) noR K) fun t17 =>
  qop T w (fun w K => opv ((Instr.loadAt 33 t1).run Tryz.prog w) noR K) fun t18 =>
  qop T w (fun w K => opv ((Instr.fieldAt 173 t4 0).run Tryz.prog w) noR K) fun t20 =>
  qop T w (fun w K => opv ((Instr.loadAt 3 t20).run Tryz.prog w) noR K) fun t21 =>
  ext w fun w =>
  lop T w (fun w K => opv ((Instr.buildSlice 24 1 #[(0, (.int .u8 17))]).run Tryz.prog w) noR K) fun t15 w =>
  ext w fun w =>
  lop T w (fun w K => opv ((Builtin.append_ #[24, 24] 24 #[t14, t15]).run Tryz.prog w) noR K) fun t16 w =>
  qop T w (fun w K => callF Tryz.prog 112 #[t18] w noR K) fun t19 =>
  qop T w (fun w K => callF Tryz.prog 111 #[t19, t21, (.int .i64 1)] w noR K) fun t22 =>
  ext w fun w =>
  lop T w (fun w K => callF Tryz.prog 67 #[t17, t22] w noR K) fun t23 w =>
  ext w fun w =>
  lop T w (fun w K => opv ((Builtin.append_ #[24, 24] 24 #[t16, t23]).run Tryz.prog w) noR K) fun t24 w =>
  ext w fun w =>
  opu ((Instr.storeAt 24 t3 t24).run Tryz.prog w) noR fun _ w =>
  ext w fun w =>
  opv ((Instr.loadAt 33 t1).run Tryz.prog w) noR fun t25 w =>
  opv ((Instr.loadAt 173 t4).run Tryz.prog w) noR fun t26 w =>
  callF Tryz.prog 141 #[t25, t26] w noR fun t27 w =>
  rangeN Tryz.prog t27 1 l2 w (fun l3 xs3 w mid3 fin3 =>
  mid3 (fun w => opv ((Instr.loadAt 33 t1).run Tryz.prog w) noR fun t29 w =>
  callF Tryz.prog 31 #[t29, (xs3.getD 0 undef)] w noR fun t31 w =>
  opv ((Instr.alloc 37 true (.tuple #[])).run Tryz.prog w) noR fun t6 w =>
  opu ((Instr.storeAt 37 t6 t31).run Tryz.prog w) noR fun _ w =>
  opv ((Instr.loadAt 37 t6).run Tryz.prog w) noR fun t32 w =>
  callF Tryz.prog 142 #[t32] w noR fun t33 w =>
  opv ((Op.unary .not t33).run Tryz.prog w) noR fun t34 w =>
  cond t34 (drawn w fun T w =>
  qop T w (fun w K => opv ((Instr.loadAt 24 t3).run Tryz.prog w) noR K) fun t35 =>
  qop T w (fun w K => opv ((Instr.loadAt 37 t6).run Tryz.prog w) noR K) fun t36 =>
  ext w fun w =>
  lop T w (fun w K => callF Tryz.prog 69 #[t36] w noR K) fun t37 w =>
  ext w fun w =>
  lop T w (fun w K => opv ((Builtin.append_ #[24, 24] 24 #[t35, t37]).run Tryz.prog w) noR K) fun t38 w =>
  ext w fun w =>
  opu ((Instr.storeAt 24 t3 t38).run Tryz.prog w) noR fun _ w =>
  ext w fun w =>
  fin3 .normal w)
  (fin3 .normal w)) w)
  (fun w => fin2 .normal w)
  [])) w)
  (fun D w => j1 (upd (upd (upd (upd (upd (ini [a0]) 1 t1) 2 (.slice none 0 0)) 3 t3) 8 t8) 1000000 (mkV D undef)) w)
  []) fun e1 g1 w =>
  opv ((Instr.loadAt 24 t3).run Tryz.prog w) (noP R) fun t39 w =>
  leaveM (mkD (g1 1000000)) w fun w => R (.returned t39) w
theorem F98.eq (R : Ending → World → Prop) (w : World) (a0 : Value) : F98 R w a0 = shF Tryz.prog 98 [0,1,2,3,4,5,6,8,9,13,27,28,34] [a0] R w := by kernel_rfl
theorem F98.calls {R : Ending → World → Prop} {w : World} {a0 : Value} (h : F98 R w a0) : Calls Tryz.prog 98 #[a0] w R := shF_sound (F98.eq R w a0 ▸ h)

/-- greenscreen/reply.whole -/
def F99 (R : Ending → World → Prop) (w : World) (a0 : Value) : Prop :=
  join (upd (upd (ini [a0]) 2 (.slice none 0 0)) 3 (.slice none 0 0)) (fun j1 =>
  callF Tryz.prog 30 #[a0] w R fun t7 w =>
  loop (upd (upd (upd (upd (ini [a0]) 2 (.slice none 0 0)) 3 (.slice none 0 0)) 7 t7) 8 (.int .i64 0)) w fun e2 g2 w j2 =>
  opv ((binOp .lss 3 (g2 8) t7).run Tryz.prog w) R fun t9 w =>
  cond t9 (join (upd (mix [9,4,5,16,3,8] g2 e2) 9 t9) (fun j3 =>
  callF Tryz.prog 31 #[a0, (g2 8)] w R fun t13 w =>
  opv ((Instr.alloc 37 true (.tuple #[])).run Tryz.prog w) R fun t5 w =>
  opu ((Instr.storeAt 37 t5 t13).run Tryz.prog w) R fun _ w =>
  opv ((Instr.loadAt 37 t5).run Tryz.prog w) R fun t14 w =>
  callF Tryz.prog 142 #[t14] w R fun t15 w =>
  opv ((Op.unary .not t15).run Tryz.prog w) R fun t16 w =>
  cond t16 (opv ((Instr.loadAt 37 t5).run Tryz.prog w) R fun t18 w =>
  callF Tryz.prog 69 #[t18] w R fun t19 w =>
  opv ((Builtin.append_ #[24, 24] 24 #[(g2 3), t19]).run Tryz.prog w) R fun t20 w =>
  j3 (upd (upd (upd (upd (upd (mix [9,4,5,16,3,8] g2 e2) 9 t9) 4 (g2 8)) 5 t5) 16 t16) 3 t20) w)
  (j3 (upd (upd (upd (upd (mix [9,4,5,16,3,8] g2 e2) 9 t9) 4 (g2 8)) 5 t5) 16 t16) w)) fun e3 g3 w =>
  opv ((binOp .add 3 (g2 8) (.int .i64 1)).run Tryz.prog w) R fun t21 w =>
  j2 (upd (mix [4,5,16,3] g3 e3) 8 t21) w)
  (j1 (upd (mix [9,4,5,16,3,8] g2 e2) 9 t9) w)) fun e1 g1 w =>
  R (.returned (g1 3)) w
theorem F99.eq (R : Ending → World → Prop) (w : World) (a0 : Value) : F99 R w a0 = shF Tryz.prog 99 [0,2,3,4,5,7,8,9,16] [a0] R w := by kernel_rfl
theorem F99.calls {R : Ending → World → Prop} {w : World} {a0 : Value} (h : F99 R w a0) : Calls Tryz.prog 99 #[a0] w R := shF_sound (F99.eq R w a0 ▸ h)

/-- greenscreen/addr.Move -/
def F111 (R : Ending → World → Prop) (w : World) (a0 a1 a2 : Value) : Prop :=
  opv ((Instr.box 32 a0).run Tryz.prog w) R fun t3 w =>
  opv ((Instr.loadAt 32 t3).run Tryz.prog w) R fun t8 w =>
  callF Tryz.prog 43 #[t8] w R fun t9 w =>
  opv ((binE true .eql 3 t9 (.int .i64 0)).run Tryz.prog w) R fun t11 w =>
  cond t11 (R (.returned (.int .i64 0)) w)
  (drawn w fun T w =>
  qop T w (fun w K => opv ((binOp .rem 3 a1 t9).run Tryz.prog w) noR K) fun t14 =>
  qop T w (fun w K => opv ((binOp .rem 3 a2 t9).run Tryz.prog w) noR K) fun t17 =>
  qop T w (fun w K => opv ((binOp .add 3 t14 t17).run Tryz.prog w) noR K) fun t18 =>
  qop T w (fun w K => opv ((binOp .rem 3 t18 t9).run Tryz.prog w) noR K) fun t20 =>
  qop T w (fun w K => opv ((binOp .add 3 t20 t9).run Tryz.prog w) noR K) fun t22 =>
  qop T w (fun w K => opv ((binOp .rem 3 t22 t9).run Tryz.prog w) noR K) fun t24 =>
  ext w fun w =>
  R (.returned t24) w)
theorem F111.eq (R : Ending → World → Prop) (w : World) (a0 a1 a2 : Value) : F111 R w a0 a1 a2 = shF Tryz.prog 111 [0,1,2,3,6,7,11] [a0, a1, a2] R w := by kernel_rfl
theorem F111.calls {R : Ending → World → Prop} {w : World} {a0 a1 a2 : Value} (h : F111 R w a0 a1 a2) : Calls Tryz.prog 111 #[a0, a1, a2] w R := shF_sound (F111.eq R w a0 a1 a2 ▸ h)

/-- (*greenscreen/plane.Plane).Size -/
def F112 (R : Ending → World → Prop) (w : World) (a0 : Value) : Prop :=
  opv ((Instr.alloc 32 true (.tuple #[])).run Tryz.prog w) R fun t2 w =>
  nilck a0 w fun t4 w =>
  opv ((Instr.fieldAt 91 t4 0).run Tryz.prog w) R fun t5 w =>
  opv ((Instr.loadAt 32 t5).run Tryz.prog w) R fun t6 w =>
  opu ((Instr.storeAt 32 t2 t6).run Tryz.prog w) R fun _ w =>
  ldv ((Instr.loadAt 32 t2).run Tryz.prog w) w fun r0 =>
  R (.returned r0) w
theorem F112.eq (R : Ending → World → Prop) (w : World) (a0 : Value) : F112 R w a0 = shF Tryz.prog 112 [0,2] [a0] R w := by kernel_rfl
theorem F112.calls {R : Ending → World → Prop} {w : World} {a0 : Value} (h : F112 R w a0) : Calls Tryz.prog 112 #[a0] w R := shF_sound (F112.eq R w a0 ▸ h)

/-- greenscreen/addr.Encode -/
def F113 (R : Ending → World → Prop) (w : World) (a0 a1 : Value) : Prop :=
  opv ((Instr.alloc 168 true (.tuple #[])).run Tryz.prog w) R fun t4 w =>
  opv ((binOp .lss 3 a1 (.int .i64 1)).run Tryz.prog w) R fun t8 w =>
  gd t8 false (fun K => K a1 w) w fun t10 w =>
  gd t8 false (fun K => opv ((binOp .gtr 3 t10 (.int .i64 16384)).run Tryz.prog w) R K) w fun t11 w =>
  pick t8 (.bool true) t11 w fun t12 w =>
  gd t12 false (fun K => K a0 w) w fun t14 w =>
  gd t12 false (fun K => opv ((binOp .lss 3 t14 (.int .i64 0)).run Tryz.prog w) R K) w fun t15 w =>
  pick t12 (.bool true) t15 w fun t16 w =>
  gd t16 false (fun K => K a0 w) w fun t18 w =>
  gd t16 false (fun K => K a1 w) w fun t19 w =>
  gd t16 false (fun K => opv ((binOp .geq 3 t18 t19).run Tryz.prog w) R K) w fun t20 w =>
  pick t16 (.bool true) t20 w fun t21 w =>
  cond t21 (opv ((Instr.build 168 #[]).run Tryz.prog w) R fun t22 w =>
  opu ((Instr.storeAt 168 t4 t22).run Tryz.prog w) R fun _ w =>
  ldv ((Instr.loadAt 168 t4).run Tryz.prog w) w fun r0 =>
  R (.returned (.tuple #[r0, (.int .i64 1)])) w)
  (opv ((binOp .gtr 3 a1 (.int .i64 4096)).run Tryz.prog w) R fun t25 w =>
  cond t25 (opv ((binOp .shr 3 a0 (.int .u64 8)).run Tryz.prog w) R fun t27 w =>
  opv ((convert 3 5 t27).run Tryz.prog w) R fun t28 w =>
  opv ((convert 3 5 a0).run Tryz.prog w) R fun t30 w =>
  opv ((Instr.build 168 #[(0, t28), (1, t30)]).run Tryz.prog w) R fun t31 w =>
  opu ((Instr.storeAt 168 t4 t31).run Tryz.prog w) R fun _ w =>
  ldv ((Instr.loadAt 168 t4).run Tryz.prog w) w fun r0 =>
  R (.returned (.tuple #[r0, (.int .i64 0)])) w)
  (opv ((binOp .shr 3 a0 (.int .u64 6)).run Tryz.prog w) R fun t33 w =>
  callF Tryz.prog 114 #[t33] w R fun t34 w =>
  callF Tryz.prog 114 #[a0] w R fun t36 w =>
  opv ((Instr.build 168 #[(0, t34), (1, t36)]).run Tryz.prog w) R fun t37 w =>
  opu ((Instr.storeAt 168 t4 t37).run Tryz.prog w) R fun _ w =>
  ldv ((Instr.loadAt 168 t4).run Tryz.prog w) w fun r0 =>
  R (.returned (.tuple #[r0, (.int .i64 0)])) w))
theorem F113.eq (R : Ending → World → Prop) (w : World) (a0 a1 : Value) : F113 R w a0 a1 = shF Tryz.prog 113 [0,1,4,5,6,23] [a0, a1] R w := by kernel_rfl
theorem F113.calls {R : Ending → World → Prop} {w : World} {a0 a1 : Value} (h : F113 R w a0 a1) : Calls Tryz.prog 113 #[a0, a1] w R := shF_sound (F113.eq R w a0 a1 ▸ h)

/-- greenscreen/addr.Digit -/
def F114 (R : Ending → World → Prop) (w : World) (a0 : Value) : Prop :=
  opv ((binOp .and 3 a0 (.int .i64 63)).run Tryz.prog w) R fun t5 w =>
  opv ((binOp .rem 3 t5 (.int .i64 16)).run Tryz.prog w) R fun t7 w =>
  opv ((binOp .geq 3 t7 (.int .i64 1)).run Tryz.prog w) R fun t9 w =>
  gd t9 true (fun K => K t7 w) w fun t11 w =>
  gd t9 true (fun K => opv ((binOp .leq 3 t11 (.int .i64 9)).run Tryz.prog w) R K) w fun t12 w =>
  pick t9 t12 (.bool false) w fun t13 w =>
  gd t13 true (fun K => K t5 w) w fun t15 w =>
  gd t13 true (fun K => opv ((binE true .neq 3 t15 (.int .i64 33)).run Tryz.prog w) R K) w fun t16 w =>
  pick t13 t16 (.bool false) w fun t17 w =>
  gd t17 false (fun K => K t5 w) w fun t19 w =>
  gd t17 false (fun K => opv ((binE true .eql 3 t19 (.int .i64 48)).run Tryz.prog w) R K) w fun t20 w =>
  pick t17 (.bool true) t20 w fun t21 w =>
  cond t21 (opv ((binOp .or 3 (.int .i64 192) t5).run Tryz.prog w) R fun t23 w =>
  opv ((convert 3 5 t23).run Tryz.prog w) R fun t24 w =>
  R (.returned t24) w)
  (opv ((binOp .or 3 (.int .i64 64) t5).run Tryz.prog w) R fun t26 w =>
  opv ((convert 3 5 t26).run Tryz.prog w) R fun t27 w =>
  R (.returned t27) w)
theorem F114.eq (R : Ending → World → Prop) (w : World) (a0 : Value) : F114 R w a0 = shF Tryz.prog 114 [0,2,3,21] [a0] R w := by kernel_rfl
theorem F114.calls {R : Ending → World → Prop} {w : World} {a0 : Value} (h : F114 R w a0) : Calls Tryz.prog 114 #[a0] w R := shF_sound (F114.eq R w a0 ▸ h)

/-- greenscreen/order.Plain -/
def F115 (R : Ending → World → Prop) (w : World) (a0 : Value) : Prop :=
  join (upd (upd (ini [a0]) 2 (.bool false)) 3 a0) (fun j1 =>
  opv ((binE true .eql 5 a0 (.int .u8 0)).run Tryz.prog w) R fun t5 w =>
  cond t5 (j1 (upd (upd (upd (ini [a0]) 2 (.bool false)) 3 a0) 4 t5) w)
  (opv ((binE true .eql 5 a0 (.int .u8 12)).run Tryz.prog w) R fun t6 w =>
  cond t6 (j1 (upd (upd (upd (upd (ini [a0]) 2 (.bool false)) 3 a0) 4 t5) 4 t6) w)
  (opv ((binE true .eql 5 a0 (.int .u8 13)).run Tryz.prog w) R fun t7 w =>
  cond t7 (j1 (upd (upd (upd (upd (upd (ini [a0]) 2 (.bool false)) 3 a0) 4 t5) 4 t6) 4 t7) w)
  (opv ((binE true .eql 5 a0 (.int .u8 21)).run Tryz.prog w) R fun t8 w =>
  cond t8 (j1 (upd (upd (upd (upd (upd (upd (ini [a0]) 2 (.bool false)) 3 a0) 4 t5) 4 t6) 4 t7) 4 t8) w)
  (opv ((binE true .eql 5 a0 (.int .u8 25)).run Tryz.prog w) R fun t9 w =>
  cond t9 (j1 (upd (upd (upd (upd (upd (upd (upd (ini [a0]) 2 (.bool false)) 3 a0) 4 t5) 4 t6) 4 t7) 4 t8) 4 t9) w)
  (opv ((binE true .eql 5 a0 (.int .u8 28)).run Tryz.prog w) R fun t10 w =>
  cond t10 (j1 (upd (upd (upd (upd (upd (upd (upd (upd (ini [a0]) 2 (.bool false)) 3 a0) 4 t5) 4 t6) 4 t7) 4 t8) 4 t9) 4 t10) w)
  (opv ((binE true .eql 5 a0 (.int .u8 30)).run Tryz.prog w) R fun t11 w =>
  cond t11 (j1 (upd (upd (upd (upd (upd (upd (upd (upd (upd (ini [a0]) 2 (.bool false)) 3 a0) 4 t5) 4 t6) 4 t7) 4 t8) 4 t9) 4 t10) 4 t11) w)
  (opv ((binE true .eql 5 a0 (.int .u8 63)).run Tryz.prog w) R fun t12 w =>
  j1 (upd (upd (upd (upd (upd (upd (upd (upd (upd (upd (ini [a0]) 2 (.bool false)) 3 a0) 4 t5) 4 t6) 4 t7) 4 t8) 4 t9) 4 t10) 4 t11) 4 t12) w)))))))) fun e1 g1 w =>
  cond (g1 4) (R (.returned (.bool true)) w)
  (opv ((binOp .geq 5 a0 (.int .u8 64)).run Tryz.prog w) R fun t14 w =>
  R (.returned t14) w)
theorem F115.eq (R : Ending → World → Prop) (w : World) (a0 : Value) : F115 R w a0 = shF Tryz.prog 115 [0,2,3,4] [a0] R w := by kernel_rfl
theorem F115.calls {R : Ending → World → Prop} {w : World} {a0 : Value} (h : F115 R w a0) : Calls Tryz.prog 115 #[a0] w R := shF_sound (F115.eq R w a0 ▸ h)

/-- greenscreen/field.Of -/
def F116 (R : Ending → World → Prop) (w : World) (a0 a1 : Value) : Prop :=
  opv ((Instr.alloc 173 true (.tuple #[])).run Tryz.prog w) R fun t4 w =>
  callF Tryz.prog 29 #[a0, a1] w R fun t9 w =>
  opv ((binOp .lss 3 t9 (.int .i64 0)).run Tryz.prog w) R fun t11 w =>
  cond t11 (opv ((Instr.build 173 #[]).run Tryz.prog w) R fun t12 w =>
  opu ((Instr.storeAt 173 t4 t12).run Tryz.prog w) R fun _ w =>
  ldv ((Instr.loadAt 173 t4).run Tryz.prog w) w fun r0 =>
  R (.returned (.tuple #[r0, (.bool false)])) w)
  (callF Tryz.prog 154 #[a0, t9] w R fun t15 w =>
  opu ((Instr.storeAt 173 t4 t15).run Tryz.prog w) R fun _ w =>
  ldv ((Instr.loadAt 173 t4).run Tryz.prog w) w fun r0 =>
  R (.returned (.tuple #[r0, (.bool true)])) w)
theorem F116.eq (R : Ending → World → Prop) (w : World) (a0 a1 : Value) : F116 R w a0 a1 = shF Tryz.prog 116 [0,1,4,5,6,11] [a0, a1] R w := by kernel_rfl
theorem F116.calls {R : Ending → World → Prop} {w : World} {a0 a1 : Value} (h : F116 R w a0 a1) : Calls Tryz.prog 116 #[a0, a1] w R := shF_sound (F116.eq R w a0 a1 ▸ h)

/-- greenscreen/field.Open -/
def F117 (R : Ending → World → Prop) (w : World) (a0 a1 : Value) : Prop :=
  callF Tryz.prog 116 #[a0, a1] w R fun t10 w =>
  opv ((Instr.extract t10 0).run Tryz.prog w) R fun t11 w =>
  opv ((Instr.extract t10 1).run Tryz.prog w) R fun t12 w =>
  opv ((Instr.alloc 173 true (.tuple #[])).run Tryz.prog w) R fun t5 w =>
  opu ((Instr.storeAt 173 t5 t11).run Tryz.prog w) R fun _ w =>
  opv ((Op.unary .not t12).run Tryz.prog w) R fun t14 w =>
  cond t14 (opv ((binOp .geq 3 a1 (.int .i64 0)).run Tryz.prog w) R fun t16 w =>
  gd t16 true (fun K => K a1 w) w fun t18 w =>
  gd t16 true (fun K => K a0 w) w fun t19 w =>
  gd t16 true (fun K => callF Tryz.prog 30 #[t19] w R K) w fun t20 w =>
  gd t16 true (fun K => opv ((binOp .lss 3 t18 t20).run Tryz.prog w) R K) w fun t21 w =>
  pick t16 t21 (.bool false) w fun t22 w =>
  R (.returned t22) w)
  (opv ((Instr.fieldAt 173 t5 0).run Tryz.prog w) R fun t23 w =>
  opv ((Instr.loadAt 3 t23).run Tryz.prog w) R fun t24 w =>
  opv ((binE false .neq 3 t24 a1).run Tryz.prog w) R fun t26 w =>
  gd t26 true (fun K => opv ((Instr.fieldAt 173 t5 2).run Tryz.prog w) R K) w fun t28 w =>
  gd t26 true (fun K => opv ((Instr.loadAt 5 t28).run Tryz.prog w) R K) w fun t29 w =>
  gd t26 true (fun K => callF Tryz.prog 136 #[t29] w R K) w fun t30 w =>
  gd t26 true (fun K => opv ((Op.unary .not t30).run Tryz.prog w) R K) w fun t31 w =>
  pick t26 t31 (.bool false) w fun t32 w =>
  R (.returned t32) w)
theorem F117.eq (R : Ending → World → Prop) (w : World) (a0 a1 : Value) : F117 R w a0 a1 = shF Tryz.prog 117 [0,1,4,5,6,14] [a0, a1] R w := by kernel_rfl
theorem F117.calls {R : Ending → World → Prop} {w : World} {a0 a1 : Value} (h : F117 R w a0 a1) : Calls Tryz.prog 117 #[a0, a1] w R := shF_sound (F117.eq R w a0 a1 ▸ h)

/-- greenscreen/attr.Numeric -/
def F118 (R : Ending → World → Prop) (w : World) (a0 : Value) : Prop :=
  opv ((binOp .and 5 a0 (.int .u8 16)).run Tryz.prog w) R fun t4 w =>
  opv ((binE true .neq 5 t4 (.int .u8 0)).run Tryz.prog w) R fun t5 w =>
  R (.returned t5) w
theorem F118.eq (R : Ending → World → Prop) (w : World) (a0 : Value) : F118 R w a0 = shF Tryz.prog 118 [0,2] [a0] R w := by kernel_rfl
theorem F118.calls {R : Ending → World → Prop} {w : World} {a0 : Value} (h : F118 R w a0) : Calls Tryz.prog 118 #[a0] w R := shF_sound (F118.eq R w a0 ▸ h)

/-- greenscreen/field.modify -/
def F123 (R : Ending → World → Prop) (w : World) (a0 a1 a2 : Value) : Prop :=
  callF Tryz.prog 31 #[a0, a1] w R fun t9 w =>
  opv ((Instr.alloc 37 true (.tuple #[])).run Tryz.prog w) R fun t6 w =>
  opu ((Instr.storeAt 37 t6 t9).run Tryz.prog w) R fun _ w =>
  opv ((Instr.fieldAt 37 t6 0).run Tryz.prog w) R fun t10 w =>
  opv ((Instr.loadAt 5 t10).run Tryz.prog w) R fun t11 w =>
  callF Tryz.prog 137 #[t11, a2] w R fun t13 w =>
  opv ((Instr.fieldAt 37 t6 0).run Tryz.prog w) R fun t14 w =>
  opu ((Instr.storeAt 5 t14 t13).run Tryz.prog w) R fun _ w =>
  opv ((Instr.loadAt 37 t6).run Tryz.prog w) R fun t17 w =>
  callF Tryz.prog 14 #[a0, a1, t17] w R fun t18 w =>
  R (.returned (.tuple #[])) w
theorem F123.eq (R : Ending → World → Prop) (w : World) (a0 a1 a2 : Value) : F123 R w a0 a1 a2 = shF Tryz.prog 123 [0,1,2,6] [a0, a1, a2] R w := by kernel_rfl
theorem F123.calls {R : Ending → World → Prop} {w : World} {a0 a1 a2 : Value} (h : F123 R w a0 a1 a2) : Calls Tryz.prog 123 #[a0, a1, a2] w R := shF_sound (F123.eq R w a0 a1 a2 ▸ h)

/-- greenscreen/caret.to -/
def F124 (R : Ending → World → Prop) (w : World) (a0 a1 : Value) : Prop :=
  callF Tryz.prog 36 #[a0, a1] w R fun t7 w =>
  R (.returned a1) w
theorem F124.eq (R : Ending → World → Prop) (w : World) (a0 a1 : Value) : F124 R w a0 a1 = shF Tryz.prog 124 [0,1,4] [a0, a1] R w := by kernel_rfl
theorem F124.calls {R : Ending → World → Prop} {w : World} {a0 a1 : Value} (h : F124 R w a0 a1) : Calls Tryz.prog 124 #[a0, a1] w R := shF_sound (F124.eq R w a0 a1 ▸ h)

/-- greenscreen/caret.by -/
def F125 (R : Ending → World → Prop) (w : World) (a0 a1 a2 : Value) : Prop :=
  callF Tryz.prog 112 #[a0] w R fun t8 w =>
  callF Tryz.prog 111 #[t8, a1, a2] w R fun t11 w =>
  R (.returned t11) w
theorem F125.eq (R : Ending → World → Prop) (w : World) (a0 a1 a2 : Value) : F125 R w a0 a1 a2 = shF Tryz.prog 125 [0,1,2,6] [a0, a1, a2] R w := by kernel_rfl
theorem F125.calls {R : Ending → World → Prop} {w : World} {a0 a1 a2 : Value} (h : F125 R w a0 a1 a2) : Calls Tryz.prog 125 #[a0, a1, a2] w R := shF_sound (F125.eq R w a0 a1 a2 ▸ h)

/-- greenscreen/attr.Skip -/
def F126 (R : Ending → World → Prop) (w : World) (a0 : Value) : Prop :=
  callF Tryz.prog 136 #[a0] w R fun t4 w =>
  gd t4 true (fun K => K a0 w) w fun t6 w =>
  gd t4 true (fun K => callF Tryz.prog 118 #[t6] w R K) w fun t7 w =>
  pick t4 t7 (.bool false) w fun t8 w =>
  R (.returned t8) w
theorem F126.eq (R : Ending → World → Prop) (w : World) (a0 : Value) : F126 R w a0 = shF Tryz.prog 126 [0,2] [a0] R w := by kernel_rfl
theorem F126.calls {R : Ending → World → Prop} {w : World} {a0 : Value} (h : F126 R w a0) : Calls Tryz.prog 126 #[a0] w R := shF_sound (F126.eq R w a0 ▸ h)

/-- greenscreen/keyboard.Name -/
def F127 (R : Ending → World → Prop) (w : World) (a0 : Value) : Prop :=
  opv ((Instr.box 45 a0).run Tryz.prog w) R fun t1 w =>
  opv ((Instr.fieldAt 45 t1 0).run Tryz.prog w) R fun t4 w =>
  opv ((Instr.loadAt 3 t4).run Tryz.prog w) R fun t5 w =>
  opv ((binE true .eql 3 t5 (.int .i64 17)).run Tryz.prog w) R fun t6 w =>
  cond t6 (opv ((Instr.fieldAt 45 t1 1).run Tryz.prog w) R fun t7 w =>
  opv ((Instr.loadAt 5 t7).run Tryz.prog w) R fun t8 w =>
  callF Tryz.prog 40 #[t8] w R fun t9 w =>
  R (.returned t9) w)
  (opv ((Instr.fieldAt 45 t1 0).run Tryz.prog w) R fun t11 w =>
  opv ((Instr.loadAt 3 t11).run Tryz.prog w) R fun t12 w =>
  opv ((binOp .leq 3 t12 (.int .i64 1)).run Tryz.prog w) R fun t13 w =>
  gd t13 false (fun K => opv ((Instr.fieldAt 45 t1 0).run Tryz.prog w) R K) w fun t15 w =>
  gd t13 false (fun K => opv ((Instr.loadAt 3 t15).run Tryz.prog w) R K) w fun t16 w =>
  gd t13 false (fun K => opv ((binOp .gtr 3 t16 (.int .i64 17)).run Tryz.prog w) R K) w fun t17 w =>
  pick t13 (.bool true) t17 w fun t18 w =>
  cond t18 (R (.returned (.string ⟨#[]⟩)) w)
  (opv ((Instr.fieldAt 45 t1 0).run Tryz.prog w) R fun t19 w =>
  opv ((Instr.loadAt 3 t19).run Tryz.prog w) R fun t20 w =>
  opv ((Instr.indexAt 221 (.pointer (some ⟨0, 0, none⟩)) t20).run Tryz.prog w) R fun t21 w =>
  opv ((Instr.loadAt 9 t21).run Tryz.prog w) R fun t22 w =>
  R (.returned t22) w))
theorem F127.eq (R : Ending → World → Prop) (w : World) (a0 : Value) : F127 R w a0 = shF Tryz.prog 127 [0,1,2,3,10] [a0] R w := by kernel_rfl
theorem F127.calls {R : Ending → World → Prop} {w : World} {a0 : Value} (h : F127 R w a0) : Calls Tryz.prog 127 #[a0] w R := shF_sound (F127.eq R w a0 ▸ h)

/-- internal/strconv.Itoa -/
def F128 (R : Ending → World → Prop) (w : World) (a0 : Value) : Prop :=
  callF Tryz.prog 156 #[a0, (.int .i64 10)] w R fun t4 w =>
  R (.returned t4) w
theorem F128.eq (R : Ending → World → Prop) (w : World) (a0 : Value) : F128 R w a0 = shF Tryz.prog 128 [0,2] [a0] R w := by kernel_rfl
theorem F128.calls {R : Ending → World → Prop} {w : World} {a0 : Value} (h : F128 R w a0) : Calls Tryz.prog 128 #[a0] w R := shF_sound (F128.eq R w a0 ▸ h)

/-- greenscreen/code.Special -/
def F129 (R : Ending → World → Prop) (w : World) (a0 : Value) : Prop :=
  opv ((convert 5 21 a0).run Tryz.prog w) R fun t4 w =>
  opv ((binOp .add 21 (.int .i32 57344) t4).run Tryz.prog w) R fun t5 w =>
  R (.returned t5) w
theorem F129.eq (R : Ending → World → Prop) (w : World) (a0 : Value) : F129 R w a0 = shF Tryz.prog 129 [0,2] [a0] R w := by kernel_rfl
theorem F129.calls {R : Ending → World → Prop} {w : World} {a0 : Value} (h : F129 R w a0) : Calls Tryz.prog 129 #[a0] w R := shF_sound (F129.eq R w a0 ▸ h)

/-- greenscreen/field.Home -/
def F133 (R : Ending → World → Prop) (w : World) (a0 : Value) : Prop :=
  opv ((Instr.box 33 a0).run Tryz.prog w) (noP R) fun t1 w =>
  opv ((Instr.alloc 3 true (.tuple #[])).run Tryz.prog w) (noP R) fun t2 w =>
  join (upd (upd (ini [a0]) 1 t1) 2 t2) (fun j1 =>
  opv ((Instr.loadAt 33 t1).run Tryz.prog w) (noP R) fun t4 w =>
  callF Tryz.prog 135 #[t4] w (noP R) fun t5 w =>
  rangeF Tryz.prog t5 1 w (fun l2 xs2 w mid2 fin2 =>
  opv ((Instr.alloc 173 true (.tuple #[])).run Tryz.prog w) noR fun t3 w =>
  opu ((Instr.storeAt 173 t3 (xs2.getD 0 undef)).run Tryz.prog w) noR fun _ w =>
  mid2 (fun w => opv ((Instr.fieldAt 173 t3 1).run Tryz.prog w) noR fun t7 w =>
  opv ((Instr.loadAt 3 t7).run Tryz.prog w) noR fun t8 w =>
  opv ((binOp .gtr 3 t8 (.int .i64 0)).run Tryz.prog w) noR fun t9 w =>
  gd t9 true (fun K => opv ((Instr.fieldAt 173 t3 2).run Tryz.prog w) noR K) w fun t11 w =>
  gd t9 true (fun K => opv ((Instr.loadAt 5 t11).run Tryz.prog w) noR K) w fun t12 w =>
  gd t9 true (fun K => callF Tryz.prog 136 #[t12] w noR K) w fun t13 w =>
  gd t9 true (fun K => opv ((Op.unary .not t13).run Tryz.prog w) noR K) w fun t14 w =>
  pick t9 t14 (.bool false) w fun t15 w =>
  cond t15 (drawn w fun T w =>
  qop T w (fun w K => opv ((Instr.loadAt 33 t1).run Tryz.prog w) noR K) fun t16 =>
  qop T w (fun w K => callF Tryz.prog 112 #[t16] w noR K) fun t17 =>
  qop T w (fun w K => opv ((Instr.fieldAt 173 t3 0).run Tryz.prog w) noR K) fun t18 =>
  qop T w (fun w K => opv ((Instr.loadAt 3 t18).run Tryz.prog w) noR K) fun t19 =>
  qop T w (fun w K => callF Tryz.prog 111 #[t17, t19, (.int .i64 1)] w noR K) fun t20 =>
  ext w fun w =>
  opu ((Instr.storeAt 3 t2 t20).run Tryz.prog w) noR fun _ w =>
  ext w fun w =>
  fin2 .ret w)
  (fin2 .normal w)) w)
  (fun D w => j1 (upd (upd (upd (upd (ini [a0]) 1 t1) 2 t2) 5 t5) 1000000 (mkV D undef)) w)
  [(0, fun D w => leaveM (mkD (mkV D undef)) w fun w => ldv ((Instr.loadAt 3 t2).run Tryz.prog w) w fun r0 =>
  R (.returned r0) w)]) fun e1 g1 w =>
  opu ((Instr.storeAt 3 t2 (.int .i64 0)).run Tryz.prog w) (noP R) fun _ w =>
  leaveM (mkD (g1 1000000)) w fun w => ldv ((Instr.loadAt 3 t2).run Tryz.prog w) w fun r0 =>
  R (.returned r0) w
theorem F133.eq (R : Ending → World → Prop) (w : World) (a0 : Value) : F133 R w a0 = shF Tryz.prog 133 [0,1,2,3,5,6,15] [a0] R w := by kernel_rfl
theorem F133.calls {R : Ending → World → Prop} {w : World} {a0 : Value} (h : F133 R w a0) : Calls Tryz.prog 133 #[a0] w R := shF_sound (F133.eq R w a0 ▸ h)

/-- greenscreen/field.All -/
def F135 (R : Ending → World → Prop) (w : World) (a0 : Value) : Prop :=
  opv ((Instr.box 33 a0).run Tryz.prog w) R fun t1 w =>
  opv ((Instr.makeFunc (.func 158) #[] #[t1]).run Tryz.prog w) R fun t3 w =>
  R (.returned t3) w
theorem F135.eq (R : Ending → World → Prop) (w : World) (a0 : Value) : F135 R w a0 = shF Tryz.prog 135 [0,1,2] [a0] R w := by kernel_rfl
theorem F135.calls {R : Ending → World → Prop} {w : World} {a0 : Value} (h : F135 R w a0) : Calls Tryz.prog 135 #[a0] w R := shF_sound (F135.eq R w a0 ▸ h)

/-- greenscreen/attr.Protected -/
def F136 (R : Ending → World → Prop) (w : World) (a0 : Value) : Prop :=
  opv ((binOp .and 5 a0 (.int .u8 32)).run Tryz.prog w) R fun t4 w =>
  opv ((binE true .neq 5 t4 (.int .u8 0)).run Tryz.prog w) R fun t5 w =>
  R (.returned t5) w
theorem F136.eq (R : Ending → World → Prop) (w : World) (a0 : Value) : F136 R w a0 = shF Tryz.prog 136 [0,2] [a0] R w := by kernel_rfl
theorem F136.calls {R : Ending → World → Prop} {w : World} {a0 : Value} (h : F136 R w a0) : Calls Tryz.prog 136 #[a0] w R := shF_sound (F136.eq R w a0 ▸ h)

/-- greenscreen/attr.Modify -/
def F137 (R : Ending → World → Prop) (w : World) (a0 a1 : Value) : Prop :=
  cond a1 (opv ((binOp .or 5 a0 (.int .u8 1)).run Tryz.prog w) R fun t7 w =>
  R (.returned t7) w)
  (opv ((binOp .andNot 5 a0 (.int .u8 1)).run Tryz.prog w) R fun t9 w =>
  R (.returned t9) w)
theorem F137.eq (R : Ending → World → Prop) (w : World) (a0 a1 : Value) : F137 R w a0 a1 = shF Tryz.prog 137 [0,1,4,5] [a0, a1] R w := by kernel_rfl
theorem F137.calls {R : Ending → World → Prop} {w : World} {a0 a1 : Value} (h : F137 R w a0 a1) : Calls Tryz.prog 137 #[a0, a1] w R := shF_sound (F137.eq R w a0 a1 ▸ h)

/-- greenscreen/addr.Decode -/
def F138 (R : Ending → World → Prop) (w : World) (a0 a1 : Value) : Prop :=
  opv ((binOp .andNot 5 a0 (.int .u8 63)).run Tryz.prog w) R fun t6 w =>
  opv ((binE true .eql 5 t6 (.int .u8 0)).run Tryz.prog w) R fun t7 w =>
  cond t7 (opv ((convert 5 3 a0).run Tryz.prog w) R fun t9 w =>
  opv ((binOp .shl 3 t9 (.int .u64 8)).run Tryz.prog w) R fun t10 w =>
  opv ((convert 5 3 a1).run Tryz.prog w) R fun t12 w =>
  opv ((binOp .or 3 t10 t12).run Tryz.prog w) R fun t13 w =>
  R (.returned t13) w)
  (callF Tryz.prog 159 #[a0] w R fun t15 w =>
  opv ((binOp .shl 3 t15 (.int .u64 6)).run Tryz.prog w) R fun t16 w =>
  callF Tryz.prog 159 #[a1] w R fun t18 w =>
  opv ((binOp .or 3 t16 t18).run Tryz.prog w) R fun t19 w =>
  R (.returned t19) w)
theorem F138.eq (R : Ending → World → Prop) (w : World) (a0 a1 : Value) : F138 R w a0 a1 = shF Tryz.prog 138 [0,1,4,7] [a0, a1] R w := by kernel_rfl
theorem F138.calls {R : Ending → World → Prop} {w : World} {a0 a1 : Value} (h : F138 R w a0 a1) : Calls Tryz.prog 138 #[a0, a1] w R := shF_sound (F138.eq R w a0 a1 ▸ h)

/-- (*greenscreen/grammar.reader).cells -/
def F139 (R : Ending → World → Prop) (w : World) (a0 : Value) : Prop :=
  join (upd (upd (ini [a0]) 2 (.slice none 0 0)) 3 (.slice none 0 0)) (fun j1 =>
  loop (upd (upd (ini [a0]) 2 (.slice none 0 0)) 3 (.slice none 0 0)) w fun e2 g2 w j2 =>
  nilck a0 w fun t5 w =>
  opv ((Instr.fieldAt 152 t5 0).run Tryz.prog w) R fun t6 w =>
  opv ((Instr.loadAt 24 t6).run Tryz.prog w) R fun t7 w =>
  opv ((Builtin.len_ #[24] 3 #[t7]).run Tryz.prog w) R fun t8 w =>
  opv ((binOp .gtr 3 t8 (.int .i64 0)).run Tryz.prog w) R fun t9 w =>
  gd t9 true (fun K => K a0 w) w fun t11 w =>
  gd t9 true (fun K => nilck t11 w K) w fun t12 w =>
  gd t9 true (fun K => opv ((Instr.fieldAt 152 t12 0).run Tryz.prog w) R K) w fun t13 w =>
  gd t9 true (fun K => opv ((Instr.loadAt 24 t13).run Tryz.prog w) R K) w fun t14 w =>
  gd t9 true (fun K => opv ((Instr.indexAt 24 t14 (.int .i64 0)).run Tryz.prog w) R K) w fun t15 w =>
  gd t9 true (fun K => opv ((Instr.loadAt 5 t15).run Tryz.prog w) R K) w fun t16 w =>
  gd t9 true (fun K => opv ((binE true .neq 5 t16 (.int .u8 17)).run Tryz.prog w) R K) w fun t17 w =>
  pick t9 t17 (.bool false) w fun t18 w =>
  cond t18 (callF Tryz.prog 160 #[a0] w R fun t21 w =>
  opv ((Instr.buildSlice 52 1 #[(0, t21)]).run Tryz.prog w) R fun t22 w =>
  opv ((Builtin.append_ #[52, 52] 52 #[(g2 3), t22]).run Tryz.prog w) R fun t23 w =>
  j2 (upd (upd (mix [18,3] g2 e2) 18 t18) 3 t23) w)
  (j1 (upd (mix [18,3] g2 e2) 18 t18) w)) fun e1 g1 w =>
  R (.returned (g1 3)) w
theorem F139.eq (R : Ending → World → Prop) (w : World) (a0 : Value) : F139 R w a0 = shF Tryz.prog 139 [0,2,3,18] [a0] R w := by kernel_rfl
theorem F139.calls {R : Ending → World → Prop} {w : World} {a0 : Value} (h : F139 R w a0) : Calls Tryz.prog 139 #[a0] w R := shF_sound (F139.eq R w a0 ▸ h)

/-- greenscreen/attr.Modified -/
def F140 (R : Ending → World → Prop) (w : World) (a0 : Value) : Prop :=
  opv ((binOp .and 5 a0 (.int .u8 1)).run Tryz.prog w) R fun t4 w =>
  opv ((binE true .neq 5 t4 (.int .u8 0)).run Tryz.prog w) R fun t5 w =>
  R (.returned t5) w
theorem F140.eq (R : Ending → World → Prop) (w : World) (a0 : Value) : F140 R w a0 = shF Tryz.prog 140 [0,2] [a0] R w := by kernel_rfl
theorem F140.calls {R : Ending → World → Prop} {w : World} {a0 : Value} (h : F140 R w a0) : Calls Tryz.prog 140 #[a0] w R := shF_sound (F140.eq R w a0 ▸ h)

/-- greenscreen/field.Places -/
def F141 (R : Ending → World → Prop) (w : World) (a0 a1 : Value) : Prop :=
  opv ((Instr.box 33 a0).run Tryz.prog w) R fun t2 w =>
  opv ((Instr.box 173 a1).run Tryz.prog w) R fun t3 w =>
  opv ((Instr.makeFunc (.func 161) #[] #[t3, t2]).run Tryz.prog w) R fun t5 w =>
  R (.returned t5) w
theorem F141.eq (R : Ending → World → Prop) (w : World) (a0 a1 : Value) : F141 R w a0 a1 = shF Tryz.prog 141 [0,1,2,3,4] [a0, a1] R w := by kernel_rfl
theorem F141.calls {R : Ending → World → Prop} {w : World} {a0 a1 : Value} (h : F141 R w a0 a1) : Calls Tryz.prog 141 #[a0, a1] w R := shF_sound (F141.eq R w a0 a1 ▸ h)

/-- greenscreen/reply.empty -/
def F142 (R : Ending → World → Prop) (w : World) (a0 : Value) : Prop :=
  opv ((Instr.box 37 a0).run Tryz.prog w) R fun t1 w =>
  opv ((Instr.fieldAt 37 t1 0).run Tryz.prog w) R fun t3 w =>
  opv ((Instr.loadAt 5 t3).run Tryz.prog w) R fun t4 w =>
  opv ((binE true .eql 5 t4 (.int .u8 0)).run Tryz.prog w) R fun t5 w =>
  gd t5 true (fun K => opv ((Instr.fieldAt 37 t1 1).run Tryz.prog w) R K) w fun t7 w =>
  gd t5 true (fun K => opv ((Instr.loadAt 4 t7).run Tryz.prog w) R K) w fun t8 w =>
  gd t5 true (fun K => opv ((Op.unary .not t8).run Tryz.prog w) R K) w fun t9 w =>
  pick t5 t9 (.bool false) w fun t10 w =>
  R (.returned t10) w
theorem F142.eq (R : Ending → World → Prop) (w : World) (a0 : Value) : F142 R w a0 = shF Tryz.prog 142 [0,1,2] [a0] R w := by kernel_rfl
theorem F142.calls {R : Ending → World → Prop} {w : World} {a0 : Value} (h : F142 R w a0) : Calls Tryz.prog 142 #[a0] w R := shF_sound (F142.eq R w a0 ▸ h)

/-- greenscreen/field.at -/
def F154 (R : Ending → World → Prop) (w : World) (a0 a1 : Value) : Prop :=
  opv ((Instr.alloc 173 true (.tuple #[])).run Tryz.prog w) R fun t4 w =>
  callF Tryz.prog 173 #[a0, a1] w R fun t8 w =>
  opv ((binOp .sub 3 t8 a1).run Tryz.prog w) R fun t10 w =>
  opv ((binOp .sub 3 t10 (.int .i64 1)).run Tryz.prog w) R fun t11 w =>
  join (upd (upd (ini [a0, a1]) 4 t4) 5 t11) (fun j1 =>
  opv ((binOp .lss 3 t11 (.int .i64 0)).run Tryz.prog w) R fun t13 w =>
  cond t13 (callF Tryz.prog 30 #[a0] w R fun t16 w =>
  opv ((binOp .add 3 t11 t16).run Tryz.prog w) R fun t17 w =>
  j1 (upd (upd (upd (upd (ini [a0, a1]) 4 t4) 5 t11) 13 t13) 5 t17) w)
  (j1 (upd (upd (upd (ini [a0, a1]) 4 t4) 5 t11) 13 t13) w)) fun e1 g1 w =>
  callF Tryz.prog 31 #[a0, a1] w R fun t22 w =>
  opv ((Instr.field 37 t22 0).run Tryz.prog w) R fun t23 w =>
  opv ((binOp .and 5 t23 (.int .u8 63)).run Tryz.prog w) R fun t24 w =>
  opv ((Instr.build 173 #[(0, a1), (1, (g1 5)), (2, t24)]).run Tryz.prog w) R fun t25 w =>
  opu ((Instr.storeAt 173 t4 t25).run Tryz.prog w) R fun _ w =>
  ldv ((Instr.loadAt 173 t4).run Tryz.prog w) w fun r0 =>
  R (.returned r0) w
theorem F154.eq (R : Ending → World → Prop) (w : World) (a0 a1 : Value) : F154 R w a0 a1 = shF Tryz.prog 154 [0,1,4,5,13] [a0, a1] R w := by kernel_rfl
theorem F154.calls {R : Ending → World → Prop} {w : World} {a0 a1 : Value} (h : F154 R w a0 a1) : Calls Tryz.prog 154 #[a0, a1] w R := shF_sound (F154.eq R w a0 a1 ▸ h)

/-- greenscreen/field.All$1 -/
def F158 (R : Ending → World → Prop) (w : World) (a0 a1 : Value) : Prop :=
  opv ((Instr.loadAt 33 a1).run Tryz.prog w) R fun t4 w =>
  callF Tryz.prog 30 #[t4] w R fun t5 w =>
  loop (upd (upd (ini [a0, a1]) 5 t5) 6 (.int .i64 0)) w fun e1 g1 w j1 =>
  opv ((binOp .lss 3 (g1 6) t5).run Tryz.prog w) R fun t7 w =>
  cond t7 (opv ((Instr.loadAt 33 a1).run Tryz.prog w) R fun t9 w =>
  callF Tryz.prog 31 #[t9, (g1 6)] w R fun t11 w =>
  opv ((Instr.field 37 t11 2).run Tryz.prog w) R fun t12 w =>
  gd t12 true (fun K => K a0 w) w fun t14 w =>
  gd t12 true (fun K => opv ((Instr.loadAt 33 a1).run Tryz.prog w) R K) w fun t15 w =>
  gd t12 true (fun K => K (g1 6) w) w fun t16 w =>
  gd t12 true (fun K => callF Tryz.prog 154 #[t15, t16] w R K) w fun t17 w =>
  gd t12 true (fun K => callY Tryz.prog t14 #[t17] w R K) w fun t18 w =>
  gd t12 true (fun K => opv ((Op.unary .not t18).run Tryz.prog w) R K) w fun t19 w =>
  pick t12 t19 (.bool false) w fun t20 w =>
  cond t20 (R (.returned (.tuple #[])) w)
  (opv ((binOp .add 3 (g1 6) (.int .i64 1)).run Tryz.prog w) R fun t21 w =>
  j1 (upd (upd (upd (upd (mix [7,3,20,6] g1 e1) 7 t7) 3 (g1 6)) 20 t20) 6 t21) w))
  (R (.returned (.tuple #[])) w)
theorem F158.eq (R : Ending → World → Prop) (w : World) (a0 a1 : Value) : F158 R w a0 a1 = shF Tryz.prog 158 [0,1,3,5,6,7,20] [a0, a1] R w := by kernel_rfl
theorem F158.calls {R : Ending → World → Prop} {w : World} {a0 a1 : Value} (h : F158 R w a0 a1) : Calls Tryz.prog 158 #[a0, a1] w R := shF_sound (F158.eq R w a0 a1 ▸ h)

/-- greenscreen/addr.Value -/
def F159 (R : Ending → World → Prop) (w : World) (a0 : Value) : Prop :=
  opv ((binOp .and 5 a0 (.int .u8 63)).run Tryz.prog w) R fun t4 w =>
  opv ((convert 5 3 t4).run Tryz.prog w) R fun t5 w =>
  R (.returned t5) w
theorem F159.eq (R : Ending → World → Prop) (w : World) (a0 : Value) : F159 R w a0 = shF Tryz.prog 159 [0,2] [a0] R w := by kernel_rfl
theorem F159.calls {R : Ending → World → Prop} {w : World} {a0 : Value} (h : F159 R w a0) : Calls Tryz.prog 159 #[a0] w R := shF_sound (F159.eq R w a0 ▸ h)

/-- (*greenscreen/grammar.reader).cell -/
def F160 (R : Ending → World → Prop) (w : World) (a0 : Value) : Prop :=
  opv ((Instr.alloc 37 true (.tuple #[])).run Tryz.prog w) R fun t2 w =>
  callF Tryz.prog 95 #[a0] w R fun t5 w =>
  callF Tryz.prog 115 #[t5] w R fun t7 w =>
  cond t7 (opv ((Instr.build 37 #[(0, t5)]).run Tryz.prog w) R fun t9 w =>
  opu ((Instr.storeAt 37 t2 t9).run Tryz.prog w) R fun _ w =>
  ldv ((Instr.loadAt 37 t2).run Tryz.prog w) w fun r0 =>
  R (.returned r0) w)
  (join (upd (upd (upd (ini [a0]) 2 t2) 3 t5) 7 t7) (fun j1 =>
  opv ((binE true .neq 5 t5 (.int .u8 8)).run Tryz.prog w) R fun t11 w =>
  cond t11 (opv ((Instr.build 149 #[(0, (.int .i64 21))]).run Tryz.prog w) R fun t12 w =>
  opv ((Instr.makeInterface 149 t12).run Tryz.prog w) R fun t13 w =>
  opv ((Instr.panic t13).run Tryz.prog w) R fun _ w =>
  j1 (upd (upd (upd (upd (ini [a0]) 2 t2) 3 t5) 7 t7) 11 t11) w)
  (j1 (upd (upd (upd (upd (ini [a0]) 2 t2) 3 t5) 7 t7) 11 t11) w)) fun e1 g1 w =>
  join (mix [11] g1 e1) (fun j2 =>
  callF Tryz.prog 95 #[a0] w R fun t15 w =>
  opv ((binOp .lss 5 t15 (.int .u8 64)).run Tryz.prog w) R fun t17 w =>
  cond t17 (opv ((Instr.build 149 #[(0, (.int .i64 21))]).run Tryz.prog w) R fun t18 w =>
  opv ((Instr.makeInterface 149 t18).run Tryz.prog w) R fun t19 w =>
  opv ((Instr.panic t19).run Tryz.prog w) R fun _ w =>
  j2 (upd (upd (mix [11] g1 e1) 3 t15) 17 t17) w)
  (j2 (upd (upd (mix [11] g1 e1) 3 t15) 17 t17) w)) fun e2 g2 w =>
  opv ((Instr.build 37 #[(0, (g2 3)), (1, (.bool true))]).run Tryz.prog w) R fun t21 w =>
  opu ((Instr.storeAt 37 t2 t21).run Tryz.prog w) R fun _ w =>
  ldv ((Instr.loadAt 37 t2).run Tryz.prog w) w fun r0 =>
  R (.returned r0) w)
theorem F160.eq (R : Ending → World → Prop) (w : World) (a0 : Value) : F160 R w a0 = shF Tryz.prog 160 [0,2,3,7,11,17] [a0] R w := by kernel_rfl
theorem F160.calls {R : Ending → World → Prop} {w : World} {a0 : Value} (h : F160 R w a0) : Calls Tryz.prog 160 #[a0] w R := shF_sound (F160.eq R w a0 ▸ h)

/-- greenscreen/field.Places$1 -/
def F161 (R : Ending → World → Prop) (w : World) (a0 a1 a2 : Value) : Prop :=
  drawn w fun T w =>
  qop T w (fun w K => opv ((Instr.fieldAt 173 a1 0).run Tryz.prog w) noR K) fun t5 =>
  qop T w (fun w K => opv ((Instr.loadAt 3 t5).run Tryz.prog w) noR K) fun t6 =>
  qop T w (fun w K => opv ((binOp .lss 3 t6 (.int .i64 0)).run Tryz.prog w) noR K) fun t7 =>
  qop T w (fun w K => gd t7 false (fun K => opv ((Instr.fieldAt 173 a1 0).run Tryz.prog w) noR K) w K) fun t9 =>
  qop T w (fun w K => gd t7 false (fun K => opv ((Instr.loadAt 3 t9).run Tryz.prog w) noR K) w K) fun t10 =>
  qop T w (fun w K => gd t7 false (fun K => opv ((Instr.loadAt 33 a2).run Tryz.prog w) noR K) w K) fun t11 =>
  qop T w (fun w K => gd t7 false (fun K => callF Tryz.prog 30 #[t11] w noR K) w K) fun t12 =>
  qop T w (fun w K => gd t7 false (fun K => opv ((binOp .geq 3 t10 t12).run Tryz.prog w) noR K) w K) fun t13 =>
  qop T w (fun w K => pick t7 (.bool true) t13 w K) fun t14 =>
  ext w fun w =>
  cond t14 (R (.returned (.tuple #[])) w)
  (drawn w fun T w =>
  qop T w (fun w K => opv ((Instr.fieldAt 173 a1 1).run Tryz.prog w) noR K) fun t15 =>
  qop T w (fun w K => opv ((Instr.loadAt 3 t15).run Tryz.prog w) noR K) fun t16 =>
  qop T w (fun w K => opv ((Builtin.max_ #[3, 3] 3 #[t16, (.int .i64 0)]).run Tryz.prog w) noR K) fun t17 =>
  qop T w (fun w K => opv ((Instr.loadAt 33 a2).run Tryz.prog w) noR K) fun t18 =>
  qop T w (fun w K => callF Tryz.prog 30 #[t18] w noR K) fun t19 =>
  qop T w (fun w K => opv ((Builtin.min_ #[3, 3] 3 #[t17, t19]).run Tryz.prog w) noR K) fun t20 =>
  ext w fun w =>
  loop (upd (upd (upd (ini [a0, a1, a2]) 14 t14) 20 t20) 21 (.int .i64 0)) w fun e1 g1 w j1 =>
  opv ((binOp .lss 3 (g1 21) t20).run Tryz.prog w) R fun t22 w =>
  cond t22 (drawn w fun T w =>
  qop T w (fun w K => opv ((Instr.loadAt 33 a2).run Tryz.prog w) noR K) fun t25 =>
  qop T w (fun w K => callF Tryz.prog 112 #[t25] w noR K) fun t26 =>
  qop T w (fun w K => opv ((Instr.fieldAt 173 a1 0).run Tryz.prog w) noR K) fun t27 =>
  qop T w (fun w K => opv ((Instr.loadAt 3 t27).run Tryz.prog w) noR K) fun t28 =>
  qop T w (fun w K => opv ((binOp .add 3 (g1 21) (.int .i64 1)).run Tryz.prog w) noR K) fun t30 =>
  qop T w (fun w K => callF Tryz.prog 111 #[t26, t28, t30] w noR K) fun t31 =>
  ext w fun w =>
  lop T w (fun w K => callY Tryz.prog a0 #[t31] w R K) fun t32 w =>
  qop T w (fun w K => opv ((Op.unary .not t32).run Tryz.prog w) noR K) fun t33 =>
  ext w fun w =>
  cond t33 (R (.returned (.tuple #[])) w)
  (opv ((binOp .add 3 (g1 21) (.int .i64 1)).run Tryz.prog w) R fun t34 w =>
  j1 (upd (upd (upd (upd (mix [22,4,33,21] g1 e1) 22 t22) 4 (g1 21)) 33 t33) 21 t34) w))
  (R (.returned (.tuple #[])) w))
theorem F161.eq (R : Ending → World → Prop) (w : World) (a0 a1 a2 : Value) : F161 R w a0 a1 a2 = shF Tryz.prog 161 [0,1,2,4,14,20,21,22,33] [a0, a1, a2] R w := by kernel_rfl
theorem F161.calls {R : Ending → World → Prop} {w : World} {a0 a1 a2 : Value} (h : F161 R w a0 a1 a2) : Calls Tryz.prog 161 #[a0, a1, a2] w R := shF_sound (F161.eq R w a0 a1 a2 ▸ h)

/-- greenscreen/field.After -/
def F173 (R : Ending → World → Prop) (w : World) (a0 a1 : Value) : Prop :=
  opv ((binOp .lss 3 a1 (.int .i64 0)).run Tryz.prog w) R fun t6 w =>
  gd t6 false (fun K => K a1 w) w fun t8 w =>
  gd t6 false (fun K => K a0 w) w fun t9 w =>
  gd t6 false (fun K => callF Tryz.prog 30 #[t9] w R K) w fun t10 w =>
  gd t6 false (fun K => opv ((binOp .geq 3 t8 t10).run Tryz.prog w) R K) w fun t11 w =>
  pick t6 (.bool true) t11 w fun t12 w =>
  cond t12 (R (.returned (.int .i64 (-1))) w)
  (callF Tryz.prog 112 #[a0] w R fun t15 w =>
  callF Tryz.prog 111 #[t15, a1, (.int .i64 1)] w R fun t17 w =>
  callF Tryz.prog 66 #[a0, t17, (.int .i64 1)] w R fun t18 w =>
  R (.returned t18) w)
theorem F173.eq (R : Ending → World → Prop) (w : World) (a0 a1 : Value) : F173 R w a0 a1 = shF Tryz.prog 173 [0,1,4,12] [a0, a1] R w := by kernel_rfl
theorem F173.calls {R : Ending → World → Prop} {w : World} {a0 a1 : Value} (h : F173 R w a0 a1) : Calls Tryz.prog 173 #[a0, a1] w R := shF_sound (F173.eq R w a0 a1 ▸ h)

end Go.Proofs.YtjdoakbadehicaaGreatDoor
