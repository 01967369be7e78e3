/-
  Shallow forms of functions of the loaded program, each tied to it. No condition.
-/
import Derived.Test.YtkjkmahpkfbbnaaGreatDoorProg
import Derived.Test.YtkjkmahpkfbbnaaGreatDoorShSound
import Derived.KernelRfl
namespace Go.Proofs.YtkjkmahpkfbbnaaGreatDoor
open Go Go.Sh
set_option linter.unusedVariables false
set_option maxRecDepth 100000
/-- greenscreen/greenscreenref14.New -/
def F5 (R : Ending → World → Prop) (w : World) (a0 : Value) : Prop :=
  opv ((Instr.box 23 a0).run Tryz.prog w) R fun t1 w =>
  opv ((Instr.alloc 27 true (.tuple #[])).run Tryz.prog w) R fun t2 w =>
  opv ((Instr.loadAt 23 t1).run Tryz.prog w) R fun t5 w =>
  callF Tryz.prog 19 #[t5] w R fun t6 w =>
  opv ((binE true .eql 3 t6 (.int .i64 0)).run Tryz.prog w) R fun t8 w =>
  cond t8 (opv ((Instr.build 27 #[]).run Tryz.prog w) R fun t9 w =>
  opu ((Instr.storeAt 27 t2 t9).run Tryz.prog w) R fun _ w =>
  ldv ((Instr.loadAt 27 t2).run Tryz.prog w) w fun r0 =>
  R (.returned (.tuple #[r0, (.int .i64 1)])) w)
  (drawn w fun T w =>
  qop T w (fun w K => opv ((Instr.loadAt 23 t1).run Tryz.prog w) noR K) fun t10 =>
  ext w fun w =>
  lop T w (fun w K => opv ((Instr.makeSlice 24 t6 t6).run Tryz.prog w) R K) fun t12 w =>
  qop T w (fun w K => opv ((Instr.build 27 #[(0, t10), (1, t12)]).run Tryz.prog w) noR K) fun t13 =>
  ext w fun w =>
  opu ((Instr.storeAt 27 t2 t13).run Tryz.prog w) R fun _ w =>
  ext w fun w =>
  ldv ((Instr.loadAt 27 t2).run Tryz.prog w) w fun r0 =>
  R (.returned (.tuple #[r0, (.int .i64 0)])) w)
theorem F5.eq (R : Ending → World → Prop) (w : World) (a0 : Value) : F5 R w a0 = shF Tryz.prog 5 [0,1,2,3,4,8] [a0] R w := by kernel_rfl
theorem F5.calls {R : Ending → World → Prop} {w : World} {a0 : Value} (h : F5 R w a0) : Calls Tryz.prog 5 #[a0] w R := shF_sound (F5.eq R w a0 ▸ h)

/-- greenscreen/plane.New -/
def F6 (R : Ending → World → Prop) (w : World) (a0 : Value) : Prop :=
  opv ((Instr.box 23 a0).run Tryz.prog w) R fun t1 w =>
  opv ((Instr.loadAt 23 t1).run Tryz.prog w) R fun t5 w =>
  callF Tryz.prog 20 #[t5] w R fun t6 w =>
  opv ((binE true .eql 3 t6 (.int .i64 0)).run Tryz.prog w) R fun t8 w =>
  cond t8 (R (.returned (.tuple #[(.pointer none), (.int .i64 1)])) w)
  (drawn w fun T w =>
  qop T w (fun w K => opv ((Instr.loadAt 23 t1).run Tryz.prog w) noR K) fun t9 =>
  ext w fun w =>
  lop T w (fun w K => opv ((Instr.makeSlice 24 t6 t6).run Tryz.prog w) R K) fun t11 w =>
  qop T w (fun w K => opv ((Instr.build 57 #[(0, t9), (1, t11)]).run Tryz.prog w) noR K) fun t12 =>
  ext w fun w =>
  lop T w (fun w K => opv ((Instr.box 57 t12).run Tryz.prog w) R K) fun t13 w =>
  ext w fun w =>
  R (.returned (.tuple #[t13, (.int .i64 0)])) w)
theorem F6.eq (R : Ending → World → Prop) (w : World) (a0 : Value) : F6 R w a0 = shF Tryz.prog 6 [0,1,2,3,4,8] [a0] R w := by kernel_rfl
theorem F6.calls {R : Ending → World → Prop} {w : World} {a0 : Value} (h : F6 R w a0) : Calls Tryz.prog 6 #[a0] w R := shF_sound (F6.eq R w a0 ▸ h)

/-- (*greenscreen/plane.Plane).Set -/
def F7 (R : Ending → World → Prop) (w : World) (a0 a1 a2 : Value) : Prop :=
  opv ((Instr.box 35 a2).run Tryz.prog w) R fun t5 w =>
  callF Tryz.prog 21 #[a0, a1] w R fun t9 w =>
  opv ((Op.unary .not t9).run Tryz.prog w) R fun t10 w =>
  cond t10 (R (.returned (.bool false)) w)
  (drawn w fun T w =>
  qop T w (fun w K => nilck a0 w K) fun t12 =>
  qop T w (fun w K => opv ((Instr.fieldAt 57 t12 1).run Tryz.prog w) noR K) fun t13 =>
  qop T w (fun w K => opv ((Instr.loadAt 24 t13).run Tryz.prog w) noR K) fun t14 =>
  qop T w (fun w K => opv ((Instr.loadAt 35 t5).run Tryz.prog w) noR K) fun t16 =>
  qop T w (fun w K => opv ((Instr.indexAt 24 t14 a1).run Tryz.prog w) noR K) fun t17 =>
  ext w fun w =>
  opu ((Instr.storeAt 35 t17 t16).run Tryz.prog w) R fun _ w =>
  ext w fun w =>
  R (.returned (.bool true)) w)
theorem F7.eq (R : Ending → World → Prop) (w : World) (a0 a1 a2 : Value) : F7 R w a0 a1 a2 = shF Tryz.prog 7 [0,1,2,5,6,10] [a0, a1, a2] R w := by kernel_rfl
theorem F7.calls {R : Ending → World → Prop} {w : World} {a0 a1 a2 : Value} (h : F7 R w a0 a1 a2) : Calls Tryz.prog 7 #[a0, a1, a2] w R := shF_sound (F7.eq R w a0 a1 a2 ▸ h)

/-- (*greenscreen/plane.Plane).Point -/
def F8 (R : Ending → World → Prop) (w : World) (a0 a1 : Value) : Prop :=
  callF Tryz.prog 21 #[a0, a1] w R fun t7 w =>
  opv ((Op.unary .not t7).run Tryz.prog w) R fun t8 w =>
  cond t8 (R (.returned (.bool false)) w)
  (nilck a0 w fun t11 w =>
  opv ((Instr.fieldAt 57 t11 2).run Tryz.prog w) R fun t12 w =>
  opu ((Instr.storeAt 3 t12 a1).run Tryz.prog w) R fun _ w =>
  R (.returned (.bool true)) w)
theorem F8.eq (R : Ending → World → Prop) (w : World) (a0 a1 : Value) : F8 R w a0 a1 = shF Tryz.prog 8 [0,1,4,8] [a0, a1] R w := by kernel_rfl
theorem F8.calls {R : Ending → World → Prop} {w : World} {a0 a1 : Value} (h : F8 R w a0 a1) : Calls Tryz.prog 8 #[a0, a1] w R := shF_sound (F8.eq R w a0 a1 ▸ h)

/-- greenscreen/grammar.Parse -/
def F9 (R : Ending → World → Prop) (w : World) (a0 : Value) : Prop :=
  opv ((Instr.alloc 40 true (.tuple #[])).run Tryz.prog w) R fun t2 w =>
  callF Tryz.prog 22 #[a0, (.func (.func 23) #[] #[])] w R fun t5 w =>
  opv ((Instr.extract t5 0).run Tryz.prog w) R fun t6 w =>
  opv ((Instr.extract t5 1).run Tryz.prog w) R fun t7 w =>
  opu ((Instr.storeAt 40 t2 t6).run Tryz.prog w) R fun _ w =>
  ldv ((Instr.loadAt 40 t2).run Tryz.prog w) w fun r0 =>
  R (.returned (.tuple #[r0, t7])) w
theorem F9.eq (R : Ending → World → Prop) (w : World) (a0 : Value) : F9 R w a0 = shF Tryz.prog 9 [0,2,3] [a0] R w := by kernel_rfl
theorem F9.calls {R : Ending → World → Prop} {w : World} {a0 : Value} (h : F9 R w a0) : Calls Tryz.prog 9 #[a0] w R := shF_sound (F9.eq R w a0 ▸ h)

/-- greenscreen/reply.Read -/
def F10 (R : Ending → World → Prop) (w : World) (a0 a1 : Value) : Prop :=
  callF Tryz.prog 24 #[a1] w R fun t6 w =>
  cond t6 (opv ((Instr.buildSlice 43 1 #[(0, a1)]).run Tryz.prog w) R fun t8 w =>
  R (.returned t8) w)
  (callF Tryz.prog 25 #[a0, a1] w R fun t11 w =>
  R (.returned t11) w)
theorem F10.eq (R : Ending → World → Prop) (w : World) (a0 a1 : Value) : F10 R w a0 a1 = shF Tryz.prog 10 [0,1,4,6] [a0, a1] R w := by kernel_rfl
theorem F10.calls {R : Ending → World → Prop} {w : World} {a0 a1 : Value} (h : F10 R w a0 a1) : Calls Tryz.prog 10 #[a0, a1] w R := shF_sound (F10.eq R w a0 a1 ▸ h)

/-- greenscreen/greenscreenref23.Short -/
def F11 (R : Ending → World → Prop) (w : World) (a0 : Value) : Prop :=
  opv ((binE true .eql 5 a0 (.int .u8 109)).run Tryz.prog w) R fun t4 w =>
  gd t4 false (fun K => K a0 w) w fun t6 w =>
  gd t4 false (fun K => opv ((binE true .eql 5 t6 (.int .u8 108)).run Tryz.prog w) R K) w fun t7 w =>
  pick t4 (.bool true) t7 w fun t8 w =>
  gd t8 false (fun K => K a0 w) w fun t10 w =>
  gd t8 false (fun K => opv ((binE true .eql 5 t10 (.int .u8 110)).run Tryz.prog w) R K) w fun t11 w =>
  pick t8 (.bool true) t11 w fun t12 w =>
  gd t12 false (fun K => K a0 w) w fun t14 w =>
  gd t12 false (fun K => opv ((binE true .eql 5 t14 (.int .u8 107)).run Tryz.prog w) R K) w fun t15 w =>
  pick t12 (.bool true) t15 w fun t16 w =>
  R (.returned t16) w
theorem F11.eq (R : Ending → World → Prop) (w : World) (a0 : Value) : F11 R w a0 = shF Tryz.prog 11 [0,2] [a0] R w := by kernel_rfl
theorem F11.calls {R : Ending → World → Prop} {w : World} {a0 : Value} (h : F11 R w a0) : Calls Tryz.prog 11 #[a0] w R := shF_sound (F11.eq R w a0 ▸ h)

/-- greenscreen/grammar.Buffer -/
def F13 (R : Ending → World → Prop) (w : World) (a0 : Value) : Prop :=
  callF Tryz.prog 30 #[a0, (.func (.func 31) #[] #[])] w R fun t10 w =>
  opv ((Instr.extract t10 0).run Tryz.prog w) R fun t11 w =>
  opv ((Instr.extract t10 1).run Tryz.prog w) R fun t12 w =>
  opv ((Instr.alloc 73 true (.tuple #[])).run Tryz.prog w) R fun t6 w =>
  opu ((Instr.storeAt 73 t6 t11).run Tryz.prog w) R fun _ w =>
  drawn w fun T w =>
  qop T w (fun w K => opv ((Instr.fieldAt 73 t6 0).run Tryz.prog w) noR K) fun t13 =>
  qop T w (fun w K => opv ((Instr.loadAt 5 t13).run Tryz.prog w) noR K) fun t14 =>
  qop T w (fun w K => opv ((Instr.fieldAt 73 t6 1).run Tryz.prog w) noR K) fun t15 =>
  qop T w (fun w K => opv ((Instr.loadAt 3 t15).run Tryz.prog w) noR K) fun t16 =>
  qop T w (fun w K => opv ((Instr.fieldAt 73 t6 2).run Tryz.prog w) noR K) fun t17 =>
  qop T w (fun w K => opv ((Instr.loadAt 24 t17).run Tryz.prog w) noR K) fun t18 =>
  ext w fun w =>
  R (.returned (.tuple #[t14, t16, t18, t12])) w
theorem F13.eq (R : Ending → World → Prop) (w : World) (a0 : Value) : F13 R w a0 = shF Tryz.prog 13 [0,2,3,4,5,6,7] [a0] R w := by kernel_rfl
theorem F13.calls {R : Ending → World → Prop} {w : World} {a0 : Value} (h : F13 R w a0) : Calls Tryz.prog 13 #[a0] w R := shF_sound (F13.eq R w a0 ▸ h)

/-- greenscreen/reply.Buffer -/
def F14 (R : Ending → World → Prop) (w : World) (a0 a1 : Value) : Prop :=
  opv ((Instr.buildSlice 43 1 #[(0, a1)]).run Tryz.prog w) R fun t9 w =>
  callF Tryz.prog 33 #[a0] w R fun t12 w =>
  callF Tryz.prog 32 #[a0, t12] w R fun t13 w =>
  opv ((Builtin.append_ #[43, 43] 43 #[t9, t13]).run Tryz.prog w) R fun t14 w =>
  join (upd (upd (ini [a0, a1]) 4 (.slice none 0 0)) 5 t14) (fun j1 =>
  callF Tryz.prog 34 #[a0] w R fun t16 w =>
  loop (upd (upd (upd (upd (ini [a0, a1]) 4 (.slice none 0 0)) 5 t14) 16 t16) 17 (.int .i64 0)) w fun e2 g2 w j2 =>
  opv ((binOp .lss 3 (g2 17) t16).run Tryz.prog w) R fun t18 w =>
  cond t18 (join (upd (mix [18,6,7,24,5,17] g2 e2) 18 t18) (fun j3 =>
  callF Tryz.prog 35 #[a0, (g2 17)] w R fun t22 w =>
  opv ((Instr.alloc 35 true (.tuple #[])).run Tryz.prog w) R fun t7 w =>
  opu ((Instr.storeAt 35 t7 t22).run Tryz.prog w) R fun _ w =>
  opv ((Instr.fieldAt 35 t7 2).run Tryz.prog w) R fun t23 w =>
  opv ((Instr.loadAt 4 t23).run Tryz.prog w) R fun t24 w =>
  cond t24 (opv ((Instr.fieldAt 35 t7 0).run Tryz.prog w) R fun t26 w =>
  opv ((Instr.loadAt 5 t26).run Tryz.prog w) R fun t27 w =>
  callF Tryz.prog 36 #[t27] w R fun t28 w =>
  opv ((Instr.buildSlice 43 2 #[(0, (.int .u8 29)), (1, t28)]).run Tryz.prog w) R fun t29 w =>
  opv ((Builtin.append_ #[43, 43] 43 #[(g2 5), t29]).run Tryz.prog w) R fun t30 w =>
  j3 (upd (upd (upd (upd (upd (mix [18,6,7,24,5,17] g2 e2) 18 t18) 6 (g2 17)) 7 t7) 24 t24) 5 t30) w)
  (opv ((Instr.loadAt 35 t7).run Tryz.prog w) R fun t32 w =>
  callF Tryz.prog 37 #[t32] w R fun t33 w =>
  opv ((Builtin.append_ #[43, 43] 43 #[(g2 5), t33]).run Tryz.prog w) R fun t34 w =>
  j3 (upd (upd (upd (upd (upd (mix [18,6,7,24,5,17] g2 e2) 18 t18) 6 (g2 17)) 7 t7) 24 t24) 5 t34) w)) fun e3 g3 w =>
  opv ((binOp .add 3 (g2 17) (.int .i64 1)).run Tryz.prog w) R fun t35 w =>
  j2 (upd (mix [6,7,24,5] g3 e3) 17 t35) w)
  (j1 (upd (mix [18,6,7,24,5,17] g2 e2) 18 t18) w)) fun e1 g1 w =>
  R (.returned (g1 5)) w
theorem F14.eq (R : Ending → World → Prop) (w : World) (a0 a1 : Value) : F14 R w a0 a1 = shF Tryz.prog 14 [0,1,4,5,6,7,16,17,18,24] [a0, a1] R w := by kernel_rfl
theorem F14.calls {R : Ending → World → Prop} {w : World} {a0 a1 : Value} (h : F14 R w a0 a1) : Calls Tryz.prog 14 #[a0, a1] w R := shF_sound (F14.eq R w a0 a1 ▸ h)

/-- greenscreen/grammar.Write -/
def F16 (R : Ending → World → Prop) (w : World) (a0 a1 : Value) : Prop :=
  opv ((Instr.box 40 a0).run Tryz.prog w) R fun t2 w =>
  opv ((Instr.fieldAt 40 t2 1).run Tryz.prog w) R fun t13 w =>
  opv ((Instr.loadAt 4 t13).run Tryz.prog w) R fun t14 w =>
  cond t14 (opv ((Instr.fieldAt 40 t2 0).run Tryz.prog w) R fun t15 w =>
  opv ((Instr.loadAt 5 t15).run Tryz.prog w) R fun t16 w =>
  opv ((Instr.buildSlice 43 1 #[(0, t16)]).run Tryz.prog w) R fun t17 w =>
  R (.returned (.tuple #[t17, (.int .i64 0)])) w)
  (opv ((Instr.fieldAt 40 t2 2).run Tryz.prog w) R fun t19 w =>
  opv ((Instr.loadAt 3 t19).run Tryz.prog w) R fun t20 w =>
  callF Tryz.prog 39 #[t20, a1] w R fun t22 w =>
  opv ((Instr.extract t22 0).run Tryz.prog w) R fun t23 w =>
  opv ((Instr.extract t22 1).run Tryz.prog w) R fun t24 w =>
  opv ((Instr.alloc 83 true (.tuple #[])).run Tryz.prog w) R fun t6 w =>
  opu ((Instr.storeAt 83 t6 t23).run Tryz.prog w) R fun _ w =>
  opv ((binE true .neq 31 t24 (.int .i64 0)).run Tryz.prog w) R fun t26 w =>
  cond t26 (R (.returned (.tuple #[(.slice none 0 0), (.int .i64 32)])) w)
  (opv ((Instr.fieldAt 40 t2 0).run Tryz.prog w) R fun t27 w =>
  opv ((Instr.loadAt 5 t27).run Tryz.prog w) R fun t28 w =>
  opv ((Instr.indexAt 83 t6 (.int .i64 0)).run Tryz.prog w) R fun t29 w =>
  opv ((Instr.loadAt 5 t29).run Tryz.prog w) R fun t30 w =>
  opv ((Instr.indexAt 83 t6 (.int .i64 1)).run Tryz.prog w) R fun t31 w =>
  opv ((Instr.loadAt 5 t31).run Tryz.prog w) R fun t32 w =>
  opv ((Instr.buildSlice 43 3 #[(0, t28), (1, t30), (2, t32)]).run Tryz.prog w) R fun t33 w =>
  join (upd (upd (upd (upd (upd (upd (upd (upd (ini [a0, a1]) 2 t2) 4 (.slice none 0 0)) 5 (.int .i64 0)) 14 t14) 6 t6) 7 t24) 26 t26) 8 t33) (fun j1 =>
  opv ((Instr.fieldAt 40 t2 3).run Tryz.prog w) R fun t34 w =>
  opv ((Instr.loadAt 38 t34).run Tryz.prog w) R fun t35 w =>
  opv ((Builtin.len_ #[38] 3 #[t35]).run Tryz.prog w) R fun t36 w =>
  loop (upd (upd (upd (upd (upd (upd (upd (upd (upd (upd (upd (ini [a0, a1]) 2 t2) 4 (.slice none 0 0)) 5 (.int .i64 0)) 14 t14) 6 t6) 7 t24) 26 t26) 8 t33) 35 t35) 36 t36) 37 (.int .i64 0)) w fun e2 g2 w j2 =>
  opv ((binOp .lss 3 (g2 37) t36).run Tryz.prog w) R fun t38 w =>
  cond t38 (opv ((Instr.indexAt 38 t35 (g2 37)).run Tryz.prog w) R fun t40 w =>
  opv ((Instr.loadAt 71 t40).run Tryz.prog w) R fun t41 w =>
  opv ((Instr.alloc 71 true (.tuple #[])).run Tryz.prog w) R fun t10 w =>
  opu ((Instr.storeAt 71 t10 t41).run Tryz.prog w) R fun _ w =>
  opv ((Instr.loadAt 71 t10).run Tryz.prog w) R fun t43 w =>
  opv ((binE true .eql 3 (g2 37) (.int .i64 0)).run Tryz.prog w) R fun t45 w =>
  callF Tryz.prog 40 #[t43, t45, a1] w R fun t47 w =>
  opv ((Instr.extract t47 0).run Tryz.prog w) R fun t48 w =>
  opv ((Instr.extract t47 1).run Tryz.prog w) R fun t49 w =>
  opv ((binE true .neq 31 t49 (.int .i64 0)).run Tryz.prog w) R fun t51 w =>
  cond t51 (R (.returned (.tuple #[(.slice none 0 0), t49])) w)
  (opv ((Builtin.append_ #[43, 43] 43 #[(g2 8), t48]).run Tryz.prog w) R fun t55 w =>
  opv ((binOp .add 3 (g2 37) (.int .i64 1)).run Tryz.prog w) R fun t56 w =>
  j2 (upd (upd (upd (upd (upd (upd (upd (upd (mix [38,10,9,11,12,51,4,5,8,37] g2 e2) 38 t38) 10 t10) 9 (g2 37)) 11 t48) 12 t49) 51 t51) 8 t55) 37 t56) w))
  (j1 (upd (mix [38,10,9,11,12,51,4,5,8,37] g2 e2) 38 t38) w)) fun e1 g1 w =>
  R (.returned (.tuple #[(g1 8), (.int .i64 0)])) w))
theorem F16.eq (R : Ending → World → Prop) (w : World) (a0 a1 : Value) : F16 R w a0 a1 = shF Tryz.prog 16 [0,1,2,4,5,6,7,8,9,10,11,12,14,26,35,36,37,38,51] [a0, a1] R w := by kernel_rfl
theorem F16.calls {R : Ending → World → Prop} {w : World} {a0 a1 : Value} (h : F16 R w a0 a1) : Calls Tryz.prog 16 #[a0, a1] w R := shF_sound (F16.eq R w a0 a1 ▸ h)

/-- greenscreen/grammar.Text -/
def F17 (R : Ending → World → Prop) (w : World) (a0 a1 : Value) : Prop :=
  opv ((Instr.box 40 a1).run Tryz.prog w) R fun t3 w =>
  opv ((Instr.fieldAt 40 t3 1).run Tryz.prog w) R fun t11 w =>
  opv ((Instr.loadAt 4 t11).run Tryz.prog w) R fun t12 w =>
  cond t12 (opv ((Instr.fieldAt 40 t3 0).run Tryz.prog w) R fun t13 w =>
  opv ((Instr.loadAt 5 t13).run Tryz.prog w) R fun t14 w =>
  callF Tryz.prog 41 #[t14] w R fun t15 w =>
  R (.returned t15) w)
  (opv ((Instr.alloc 90 true (.tuple #[])).run Tryz.prog w) R fun t5 w =>
  drawn w fun T w =>
  qop T w (fun w K => opv ((Instr.fieldAt 40 t3 0).run Tryz.prog w) noR K) fun t16 =>
  qop T w (fun w K => opv ((Instr.loadAt 5 t16).run Tryz.prog w) noR K) fun t17 =>
  qop T w (fun w K => callF Tryz.prog 41 #[t17] w noR K) fun t18 =>
  qop T w (fun w K => opv ((binOp .add 9 t18 (.string ⟨#[32, 64]⟩)).run Tryz.prog w) noR K) fun t19 =>
  qop T w (fun w K => opv ((Instr.fieldAt 40 t3 2).run Tryz.prog w) noR K) fun t20 =>
  qop T w (fun w K => opv ((Instr.loadAt 3 t20).run Tryz.prog w) noR K) fun t21 =>
  qop T w (fun w K => callF Tryz.prog 43 #[t21] w noR K) fun t22 =>
  qop T w (fun w K => opv ((binOp .add 9 t19 t22).run Tryz.prog w) noR K) fun t23 =>
  ext w fun w =>
  lop T w (fun w K => callF Tryz.prog 42 #[t5, t23] w R K) fun t24 w =>
  ext w fun w =>
  join (upd (upd (upd (upd (ini [a0, a1]) 3 t3) 4 (.string ⟨#[]⟩)) 12 t12) 5 t5) (fun j1 =>
  opv ((Instr.fieldAt 40 t3 3).run Tryz.prog w) R fun t25 w =>
  opv ((Instr.loadAt 38 t25).run Tryz.prog w) R fun t26 w =>
  opv ((Builtin.len_ #[38] 3 #[t26]).run Tryz.prog w) R fun t27 w =>
  loop (upd (upd (upd (upd (upd (upd (upd (ini [a0, a1]) 3 t3) 4 (.string ⟨#[]⟩)) 12 t12) 5 t5) 26 t26) 27 t27) 28 (.int .i64 0)) w fun e2 g2 w j2 =>
  opv ((binOp .lss 3 (g2 28) t27).run Tryz.prog w) R fun t29 w =>
  cond t29 (join (upd (mix [29,7,37,8,43,44,46,10,45,28] g2 e2) 29 t29) (fun j3 =>
  opv ((Instr.indexAt 38 t26 (g2 28)).run Tryz.prog w) R fun t30 w =>
  opv ((Instr.loadAt 71 t30).run Tryz.prog w) R fun t31 w =>
  opv ((Instr.alloc 71 true (.tuple #[])).run Tryz.prog w) R fun t7 w =>
  opu ((Instr.storeAt 71 t7 t31).run Tryz.prog w) R fun _ w =>
  opv ((Instr.fieldAt 71 t7 0).run Tryz.prog w) R fun t32 w =>
  opv ((Instr.loadAt 3 t32).run Tryz.prog w) R fun t33 w =>
  callF Tryz.prog 43 #[t33] w R fun t34 w =>
  join (upd (upd (upd (mix [29,7,37,8,43,44,46,10,45,28] g2 e2) 29 t29) 7 t7) 8 t34) (fun j4 =>
  opv ((Instr.fieldAt 71 t7 0).run Tryz.prog w) R fun t35 w =>
  opv ((Instr.loadAt 3 t35).run Tryz.prog w) R fun t36 w =>
  opv ((binE true .eql 3 t36 (.int .i64 (-1))).run Tryz.prog w) R fun t37 w =>
  cond t37 (j4 (upd (upd (upd (upd (upd (mix [29,7,37,8,43,44,46,10,45,28] g2 e2) 29 t29) 7 t7) 8 t34) 37 t37) 8 (.string ⟨#[42]⟩)) w)
  (j4 (upd (upd (upd (upd (mix [29,7,37,8,43,44,46,10,45,28] g2 e2) 29 t29) 7 t7) 8 t34) 37 t37) w)) fun e4 g4 w =>
  opv ((binOp .add 9 (.string ⟨#[32]⟩) (g4 8)).run Tryz.prog w) R fun t39 w =>
  opv ((binOp .add 9 t39 (.string ⟨#[61]⟩)).run Tryz.prog w) R fun t40 w =>
  callF Tryz.prog 42 #[t5, t40] w R fun t41 w =>
  opv ((Instr.fieldAt 71 t7 1).run Tryz.prog w) R fun t42 w =>
  opv ((Instr.loadAt 24 t42).run Tryz.prog w) R fun t43 w =>
  opv ((Builtin.len_ #[24] 3 #[t43]).run Tryz.prog w) R fun t44 w =>
  loop (upd (upd (upd (mix [37,8] g4 e4) 43 t43) 44 t44) 45 (.int .i64 0)) w fun e5 g5 w j5 =>
  opv ((binOp .lss 3 (g5 45) t44).run Tryz.prog w) R fun t46 w =>
  cond t46 (opv ((Instr.indexAt 24 t43 (g5 45)).run Tryz.prog w) R fun t47 w =>
  opv ((Instr.loadAt 35 t47).run Tryz.prog w) R fun t48 w =>
  opv ((Instr.alloc 35 true (.tuple #[])).run Tryz.prog w) R fun t10 w =>
  opu ((Instr.storeAt 35 t10 t48).run Tryz.prog w) R fun _ w =>
  opv ((Instr.loadAt 35 t10).run Tryz.prog w) R fun t50 w =>
  callF Tryz.prog 44 #[a0, t50] w R fun t51 w =>
  callF Tryz.prog 42 #[t5, t51] w R fun t52 w =>
  opv ((binOp .add 3 (g5 45) (.int .i64 1)).run Tryz.prog w) R fun t53 w =>
  j5 (upd (upd (upd (mix [46,10,45] g5 e5) 46 t46) 10 t10) 45 t53) w)
  (j3 (upd (mix [46,10,45] g5 e5) 46 t46) w)) fun e3 g3 w =>
  opv ((binOp .add 3 (g2 28) (.int .i64 1)).run Tryz.prog w) R fun t54 w =>
  j2 (upd (mix [7,37,8,43,44,46,10,45] g3 e3) 28 t54) w)
  (j1 (upd (mix [29,7,37,8,43,44,46,10,45,28] g2 e2) 29 t29) w)) fun e1 g1 w =>
  callF Tryz.prog 45 #[t5] w R fun t55 w =>
  R (.returned t55) w)
theorem F17.eq (R : Ending → World → Prop) (w : World) (a0 a1 : Value) : F17 R w a0 a1 = shF Tryz.prog 17 [0,1,3,4,5,7,8,10,12,26,27,28,29,37,43,44,45,46] [a0, a1] R w := by kernel_rfl
theorem F17.calls {R : Ending → World → Prop} {w : World} {a0 a1 : Value} (h : F17 R w a0 a1) : Calls Tryz.prog 17 #[a0, a1] w R := shF_sound (F17.eq R w a0 a1 ▸ h)

/-- greenscreen/grammar.Same -/
def F18 (R : Ending → World → Prop) (w : World) (a0 a1 : Value) : Prop :=
  opv ((Instr.box 40 a0).run Tryz.prog w) R fun t2 w =>
  opv ((Instr.box 40 a1).run Tryz.prog w) R fun t3 w =>
  opv ((Instr.fieldAt 40 t2 0).run Tryz.prog w) R fun t6 w =>
  opv ((Instr.loadAt 5 t6).run Tryz.prog w) R fun t7 w =>
  opv ((Instr.fieldAt 40 t3 0).run Tryz.prog w) R fun t8 w =>
  opv ((Instr.loadAt 5 t8).run Tryz.prog w) R fun t9 w =>
  opv ((binE false .eql 5 t7 t9).run Tryz.prog w) R fun t10 w =>
  gd t10 true (fun K => opv ((Instr.fieldAt 40 t2 1).run Tryz.prog w) R K) w fun t12 w =>
  gd t10 true (fun K => opv ((Instr.loadAt 4 t12).run Tryz.prog w) R K) w fun t13 w =>
  gd t10 true (fun K => opv ((Instr.fieldAt 40 t3 1).run Tryz.prog w) R K) w fun t14 w =>
  gd t10 true (fun K => opv ((Instr.loadAt 4 t14).run Tryz.prog w) R K) w fun t15 w =>
  gd t10 true (fun K => opv ((binE false .eql 4 t13 t15).run Tryz.prog w) R K) w fun t16 w =>
  pick t10 t16 (.bool false) w fun t17 w =>
  gd t17 true (fun K => opv ((Instr.fieldAt 40 t2 2).run Tryz.prog w) R K) w fun t19 w =>
  gd t17 true (fun K => opv ((Instr.loadAt 3 t19).run Tryz.prog w) R K) w fun t20 w =>
  gd t17 true (fun K => opv ((Instr.fieldAt 40 t3 2).run Tryz.prog w) R K) w fun t21 w =>
  gd t17 true (fun K => opv ((Instr.loadAt 3 t21).run Tryz.prog w) R K) w fun t22 w =>
  gd t17 true (fun K => opv ((binE false .eql 3 t20 t22).run Tryz.prog w) R K) w fun t23 w =>
  pick t17 t23 (.bool false) w fun t24 w =>
  gd t24 true (fun K => opv ((Instr.fieldAt 40 t2 3).run Tryz.prog w) R K) w fun t26 w =>
  gd t24 true (fun K => opv ((Instr.loadAt 38 t26).run Tryz.prog w) R K) w fun t27 w =>
  gd t24 true (fun K => opv ((Instr.fieldAt 40 t3 3).run Tryz.prog w) R K) w fun t28 w =>
  gd t24 true (fun K => opv ((Instr.loadAt 38 t28).run Tryz.prog w) R K) w fun t29 w =>
  gd t24 true (fun K => K (.func (.func 46) #[] #[]) w) w fun t30 w =>
  gd t24 true (fun K => callF Tryz.prog 48 #[t27, t29, t30] w R K) w fun t31 w =>
  pick t24 t31 (.bool false) w fun t32 w =>
  R (.returned t32) w
theorem F18.eq (R : Ending → World → Prop) (w : World) (a0 a1 : Value) : F18 R w a0 a1 = shF Tryz.prog 18 [0,1,2,3,4,5] [a0, a1] R w := by kernel_rfl
theorem F18.calls {R : Ending → World → Prop} {w : World} {a0 a1 : Value} (h : F18 R w a0 a1) : Calls Tryz.prog 18 #[a0, a1] w R := shF_sound (F18.eq R w a0 a1 ▸ h)

/-- greenscreen/greenscreenref02.Cells -/
def F19 (R : Ending → World → Prop) (w : World) (a0 : Value) : Prop :=
  opv ((Instr.box 23 a0).run Tryz.prog w) R fun t1 w =>
  opv ((Instr.fieldAt 23 t1 0).run Tryz.prog w) R fun t3 w =>
  opv ((Instr.loadAt 3 t3).run Tryz.prog w) R fun t4 w =>
  opv ((binOp .lss 3 t4 (.int .i64 1)).run Tryz.prog w) R fun t5 w =>
  gd t5 false (fun K => opv ((Instr.fieldAt 23 t1 0).run Tryz.prog w) R K) w fun t7 w =>
  gd t5 false (fun K => opv ((Instr.loadAt 3 t7).run Tryz.prog w) R K) w fun t8 w =>
  gd t5 false (fun K => opv ((binOp .gtr 3 t8 (.int .i64 43)).run Tryz.prog w) R K) w fun t9 w =>
  pick t5 (.bool true) t9 w fun t10 w =>
  gd t10 false (fun K => opv ((Instr.fieldAt 23 t1 1).run Tryz.prog w) R K) w fun t12 w =>
  gd t10 false (fun K => opv ((Instr.loadAt 3 t12).run Tryz.prog w) R K) w fun t13 w =>
  gd t10 false (fun K => opv ((binOp .lss 3 t13 (.int .i64 1)).run Tryz.prog w) R K) w fun t14 w =>
  pick t10 (.bool true) t14 w fun t15 w =>
  gd t15 false (fun K => opv ((Instr.fieldAt 23 t1 1).run Tryz.prog w) R K) w fun t17 w =>
  gd t15 false (fun K => opv ((Instr.loadAt 3 t17).run Tryz.prog w) R K) w fun t18 w =>
  gd t15 false (fun K => opv ((binOp .gtr 3 t18 (.int .i64 132)).run Tryz.prog w) R K) w fun t19 w =>
  pick t15 (.bool true) t19 w fun t20 w =>
  gd t20 false (fun K => opv ((Instr.fieldAt 23 t1 0).run Tryz.prog w) R K) w fun t22 w =>
  gd t20 false (fun K => opv ((Instr.loadAt 3 t22).run Tryz.prog w) R K) w fun t23 w =>
  gd t20 false (fun K => opv ((Instr.fieldAt 23 t1 1).run Tryz.prog w) R K) w fun t24 w =>
  gd t20 false (fun K => opv ((Instr.loadAt 3 t24).run Tryz.prog w) R K) w fun t25 w =>
  gd t20 false (fun K => opv ((binOp .mul 3 t23 t25).run Tryz.prog w) R K) w fun t26 w =>
  gd t20 false (fun K => opv ((binOp .gtr 3 t26 (.int .i64 4096)).run Tryz.prog w) R K) w fun t27 w =>
  pick t20 (.bool true) t27 w fun t28 w =>
  cond t28 (R (.returned (.int .i64 0)) w)
  (opv ((Instr.fieldAt 23 t1 0).run Tryz.prog w) R fun t29 w =>
  opv ((Instr.loadAt 3 t29).run Tryz.prog w) R fun t30 w =>
  opv ((Instr.fieldAt 23 t1 1).run Tryz.prog w) R fun t31 w =>
  opv ((Instr.loadAt 3 t31).run Tryz.prog w) R fun t32 w =>
  opv ((binOp .mul 3 t30 t32).run Tryz.prog w) R fun t33 w =>
  R (.returned t33) w)
theorem F19.eq (R : Ending → World → Prop) (w : World) (a0 : Value) : F19 R w a0 = shF Tryz.prog 19 [0,1,2,28] [a0] R w := by kernel_rfl
theorem F19.calls {R : Ending → World → Prop} {w : World} {a0 : Value} (h : F19 R w a0) : Calls Tryz.prog 19 #[a0] w R := shF_sound (F19.eq R w a0 ▸ h)

/-- greenscreen/addr.Cells -/
def F20 (R : Ending → World → Prop) (w : World) (a0 : Value) : Prop :=
  opv ((Instr.box 23 a0).run Tryz.prog w) R fun t1 w =>
  opv ((Instr.fieldAt 23 t1 0).run Tryz.prog w) R fun t4 w =>
  opv ((Instr.loadAt 3 t4).run Tryz.prog w) R fun t5 w =>
  opv ((Instr.fieldAt 23 t1 1).run Tryz.prog w) R fun t6 w =>
  opv ((Instr.loadAt 3 t6).run Tryz.prog w) R fun t7 w =>
  opv ((binOp .mul 3 t5 t7).run Tryz.prog w) R fun t8 w =>
  opv ((Instr.fieldAt 23 t1 0).run Tryz.prog w) R fun t9 w =>
  opv ((Instr.loadAt 3 t9).run Tryz.prog w) R fun t10 w =>
  opv ((binOp .lss 3 t10 (.int .i64 1)).run Tryz.prog w) R fun t11 w =>
  gd t11 false (fun K => opv ((Instr.fieldAt 23 t1 0).run Tryz.prog w) R K) w fun t13 w =>
  gd t11 false (fun K => opv ((Instr.loadAt 3 t13).run Tryz.prog w) R K) w fun t14 w =>
  gd t11 false (fun K => opv ((binOp .gtr 3 t14 (.int .i64 43)).run Tryz.prog w) R K) w fun t15 w =>
  pick t11 (.bool true) t15 w fun t16 w =>
  gd t16 false (fun K => opv ((Instr.fieldAt 23 t1 1).run Tryz.prog w) R K) w fun t18 w =>
  gd t16 false (fun K => opv ((Instr.loadAt 3 t18).run Tryz.prog w) R K) w fun t19 w =>
  gd t16 false (fun K => opv ((binOp .lss 3 t19 (.int .i64 1)).run Tryz.prog w) R K) w fun t20 w =>
  pick t16 (.bool true) t20 w fun t21 w =>
  gd t21 false (fun K => opv ((Instr.fieldAt 23 t1 1).run Tryz.prog w) R K) w fun t23 w =>
  gd t21 false (fun K => opv ((Instr.loadAt 3 t23).run Tryz.prog w) R K) w fun t24 w =>
  gd t21 false (fun K => opv ((binOp .gtr 3 t24 (.int .i64 132)).run Tryz.prog w) R K) w fun t25 w =>
  pick t21 (.bool true) t25 w fun t26 w =>
  gd t26 false (fun K => K t8 w) w fun t28 w =>
  gd t26 false (fun K => opv ((binOp .gtr 3 t28 (.int .i64 4096)).run Tryz.prog w) R K) w fun t29 w =>
  pick t26 (.bool true) t29 w fun t30 w =>
  cond t30 (R (.returned (.int .i64 0)) w)
  (R (.returned t8) w)
theorem F20.eq (R : Ending → World → Prop) (w : World) (a0 : Value) : F20 R w a0 = shF Tryz.prog 20 [0,1,2,3,30] [a0] R w := by kernel_rfl
theorem F20.calls {R : Ending → World → Prop} {w : World} {a0 : Value} (h : F20 R w a0) : Calls Tryz.prog 20 #[a0] w R := shF_sound (F20.eq R w a0 ▸ h)

/-- (*greenscreen/plane.Plane).has -/
def F21 (R : Ending → World → Prop) (w : World) (a0 a1 : Value) : Prop :=
  opv ((binOp .geq 3 a1 (.int .i64 0)).run Tryz.prog w) R fun t6 w =>
  gd t6 true (fun K => K a1 w) w fun t8 w =>
  gd t6 true (fun K => K a0 w) w fun t9 w =>
  gd t6 true (fun K => nilck t9 w K) w fun t10 w =>
  gd t6 true (fun K => opv ((Instr.fieldAt 57 t10 1).run Tryz.prog w) R K) w fun t11 w =>
  gd t6 true (fun K => opv ((Instr.loadAt 24 t11).run Tryz.prog w) R K) w fun t12 w =>
  gd t6 true (fun K => opv ((Builtin.len_ #[24] 3 #[t12]).run Tryz.prog w) R K) w fun t13 w =>
  gd t6 true (fun K => opv ((binOp .lss 3 t8 t13).run Tryz.prog w) R K) w fun t14 w =>
  pick t6 t14 (.bool false) w fun t15 w =>
  R (.returned t15) w
theorem F21.eq (R : Ending → World → Prop) (w : World) (a0 a1 : Value) : F21 R w a0 a1 = shF Tryz.prog 21 [0,1,4] [a0, a1] R w := by kernel_rfl
theorem F21.calls {R : Ending → World → Prop} {w : World} {a0 a1 : Value} (h : F21 R w a0 a1) : Calls Tryz.prog 21 #[a0, a1] w R := shF_sound (F21.eq R w a0 a1 ▸ h)

/-- (*greenscreen/grammar.reader).inbound -/
def F23 (R : Ending → World → Prop) (w : World) (a0 : Value) : Prop :=
  opv ((Instr.alloc 40 true (.tuple #[])).run Tryz.prog w) R fun t2 w =>
  callF Tryz.prog 50 #[a0] w R fun t5 w =>
  opv ((Instr.build 40 #[(0, t5)]).run Tryz.prog w) R fun t6 w =>
  opv ((Instr.alloc 40 true (.tuple #[])).run Tryz.prog w) R fun t3 w =>
  opu ((Instr.storeAt 40 t3 t6).run Tryz.prog w) R fun _ w =>
  nilck a0 w fun t8 w =>
  opv ((Instr.fieldAt 105 t8 0).run Tryz.prog w) R fun t9 w =>
  opv ((Instr.loadAt 43 t9).run Tryz.prog w) R fun t10 w =>
  opv ((Builtin.len_ #[43] 3 #[t10]).run Tryz.prog w) R fun t11 w =>
  opv ((binE true .eql 3 t11 (.int .i64 0)).run Tryz.prog w) R fun t12 w =>
  cond t12 (opv ((Instr.fieldAt 40 t3 1).run Tryz.prog w) R fun t13 w =>
  opu ((Instr.storeAt 4 t13 (.bool true)).run Tryz.prog w) R fun _ w =>
  opv ((Instr.loadAt 40 t3).run Tryz.prog w) R fun t14 w =>
  opu ((Instr.storeAt 40 t2 t14).run Tryz.prog w) R fun _ w =>
  ldv ((Instr.loadAt 40 t2).run Tryz.prog w) w fun r0 =>
  R (.returned r0) w)
  (callF Tryz.prog 51 #[a0] w R fun t16 w =>
  opv ((Instr.fieldAt 40 t3 2).run Tryz.prog w) R fun t17 w =>
  opu ((Instr.storeAt 3 t17 t16).run Tryz.prog w) R fun _ w =>
  join (upd (upd (upd (ini [a0]) 2 t2) 3 t3) 12 t12) (fun j1 =>
  loop (upd (upd (upd (ini [a0]) 2 t2) 3 t3) 12 t12) w fun e2 g2 w j2 =>
  nilck a0 w fun t19 w =>
  opv ((Instr.fieldAt 105 t19 0).run Tryz.prog w) R fun t20 w =>
  opv ((Instr.loadAt 43 t20).run Tryz.prog w) R fun t21 w =>
  opv ((Builtin.len_ #[43] 3 #[t21]).run Tryz.prog w) R fun t22 w =>
  opv ((binOp .gtr 3 t22 (.int .i64 0)).run Tryz.prog w) R fun t23 w =>
  cond t23 (drawn w fun T w =>
  qop T w (fun w K => opv ((Instr.fieldAt 40 t3 3).run Tryz.prog w) noR K) fun t24 =>
  qop T w (fun w K => opv ((Instr.loadAt 38 t24).run Tryz.prog w) noR K) fun t25 =>
  ext w fun w =>
  lop T w (fun w K => callF Tryz.prog 52 #[a0] w R K) fun t27 w =>
  ext w fun w =>
  lop T w (fun w K => opv ((Instr.buildSlice 38 1 #[(0, t27)]).run Tryz.prog w) R K) fun t28 w =>
  ext w fun w =>
  lop T w (fun w K => opv ((Builtin.append_ #[38, 38] 38 #[t25, t28]).run Tryz.prog w) R K) fun t29 w =>
  qop T w (fun w K => opv ((Instr.fieldAt 40 t3 3).run Tryz.prog w) noR K) fun t30 =>
  ext w fun w =>
  opu ((Instr.storeAt 38 t30 t29).run Tryz.prog w) R fun _ w =>
  ext w fun w =>
  j2 (upd (mix [23] g2 e2) 23 t23) w)
  (j1 (upd (mix [23] g2 e2) 23 t23) w)) fun e1 g1 w =>
  opv ((Instr.loadAt 40 t3).run Tryz.prog w) R fun t31 w =>
  opu ((Instr.storeAt 40 t2 t31).run Tryz.prog w) R fun _ w =>
  ldv ((Instr.loadAt 40 t2).run Tryz.prog w) w fun r0 =>
  R (.returned r0) w)
theorem F23.eq (R : Ending → World → Prop) (w : World) (a0 : Value) : F23 R w a0 = shF Tryz.prog 23 [0,2,3,12,23] [a0] R w := by kernel_rfl
theorem F23.calls {R : Ending → World → Prop} {w : World} {a0 : Value} (h : F23 R w a0) : Calls Tryz.prog 23 #[a0] w R := shF_sound (F23.eq R w a0 ▸ h)

/-- greenscreen/keyboard.Short -/
def F24 (R : Ending → World → Prop) (w : World) (a0 : Value) : Prop :=
  callF Tryz.prog 53 #[a0] w R fun t4 w =>
  opv ((binE true .neq 9 t4 (.string ⟨#[]⟩)).run Tryz.prog w) R fun t5 w =>
  gd t5 true (fun K => K a0 w) w fun t7 w =>
  gd t5 true (fun K => opv ((binE true .neq 5 t7 (.int .u8 125)).run Tryz.prog w) R K) w fun t8 w =>
  pick t5 t8 (.bool false) w fun t9 w =>
  R (.returned t9) w
theorem F24.eq (R : Ending → World → Prop) (w : World) (a0 : Value) : F24 R w a0 = shF Tryz.prog 24 [0,2] [a0] R w := by kernel_rfl
theorem F24.calls {R : Ending → World → Prop} {w : World} {a0 : Value} (h : F24 R w a0) : Calls Tryz.prog 24 #[a0] w R := shF_sound (F24.eq R w a0 ▸ h)

/-- greenscreen/reply.All -/
def F25 (R : Ending → World → Prop) (w : World) (a0 a1 : Value) : Prop :=
  opv ((Instr.buildSlice 43 1 #[(0, a1)]).run Tryz.prog w) R fun t7 w =>
  callF Tryz.prog 33 #[a0] w R fun t10 w =>
  callF Tryz.prog 32 #[a0, t10] w R fun t11 w =>
  opv ((Builtin.append_ #[43, 43] 43 #[t7, t11]).run Tryz.prog w) R fun t12 w =>
  callF Tryz.prog 54 #[a0] w R fun t14 w =>
  cond t14 (callF Tryz.prog 55 #[a0] w R fun t17 w =>
  opv ((Builtin.append_ #[43, 43] 43 #[t12, t17]).run Tryz.prog w) R fun t18 w =>
  R (.returned t18) w)
  (callF Tryz.prog 56 #[a0] w R fun t21 w =>
  opv ((Builtin.append_ #[43, 43] 43 #[t12, t21]).run Tryz.prog w) R fun t22 w =>
  R (.returned t22) w)
theorem F25.eq (R : Ending → World → Prop) (w : World) (a0 a1 : Value) : F25 R w a0 a1 = shF Tryz.prog 25 [0,1,4,5,14] [a0, a1] R w := by kernel_rfl
theorem F25.calls {R : Ending → World → Prop} {w : World} {a0 a1 : Value} (h : F25 R w a0 a1) : Calls Tryz.prog 25 #[a0, a1] w R := shF_sound (F25.eq R w a0 a1 ▸ h)

/-- greenscreen/greenscreenref20.Empty -/
def F27 (R : Ending → World → Prop) (w : World) (a0 : Value) : Prop :=
  opv ((Instr.box 35 a0).run Tryz.prog w) R fun t1 w =>
  opv ((Instr.fieldAt 35 t1 0).run Tryz.prog w) R fun t3 w =>
  opv ((Instr.loadAt 5 t3).run Tryz.prog w) R fun t4 w =>
  opv ((binE true .eql 5 t4 (.int .u8 0)).run Tryz.prog w) R fun t5 w =>
  gd t5 true (fun K => opv ((Instr.fieldAt 35 t1 1).run Tryz.prog w) R K) w fun t7 w =>
  gd t5 true (fun K => opv ((Instr.loadAt 4 t7).run Tryz.prog w) R K) w fun t8 w =>
  gd t5 true (fun K => opv ((Op.unary .not t8).run Tryz.prog w) R K) w fun t9 w =>
  pick t5 t9 (.bool false) w fun t10 w =>
  R (.returned t10) w
theorem F27.eq (R : Ending → World → Prop) (w : World) (a0 : Value) : F27 R w a0 = shF Tryz.prog 27 [0,1,2] [a0] R w := by kernel_rfl
theorem F27.calls {R : Ending → World → Prop} {w : World} {a0 : Value} (h : F27 R w a0) : Calls Tryz.prog 27 #[a0] w R := shF_sound (F27.eq R w a0 ▸ h)

/-- greenscreen/greenscreenref15.All -/
def F28 (R : Ending → World → Prop) (w : World) (a0 : Value) : Prop :=
  opv ((Instr.box 27 a0).run Tryz.prog w) R fun t1 w =>
  opv ((Instr.buildSlice 65 0 #[]).run Tryz.prog w) R fun t7 w =>
  opv ((Instr.loadAt 27 t1).run Tryz.prog w) R fun t8 w =>
  callF Tryz.prog 57 #[t8] w R fun t9 w =>
  join (upd (upd (upd (upd (ini [a0]) 1 t1) 2 (.slice none 0 0)) 3 t7) 4 t9) (fun j1 =>
  loop (upd (upd (upd (upd (upd (ini [a0]) 1 t1) 2 (.slice none 0 0)) 3 t7) 4 t9) 5 (.int .i64 0)) w fun e2 g2 w j2 =>
  opv ((Builtin.len_ #[62] 3 #[t9]).run Tryz.prog w) R fun t12 w =>
  opv ((binOp .lss 3 (g2 5) t12).run Tryz.prog w) R fun t13 w =>
  cond t13 (drawn w fun T w =>
  qop T w (fun w K => opv ((Instr.indexAt 62 t9 (.int .i64 0)).run Tryz.prog w) noR K) fun t17 =>
  qop T w (fun w K => opv ((Instr.loadAt 3 t17).run Tryz.prog w) noR K) fun t18 =>
  qop T w (fun w K => opv ((Instr.fieldAt 27 t1 1).run Tryz.prog w) noR K) fun t19 =>
  qop T w (fun w K => opv ((Instr.loadAt 24 t19).run Tryz.prog w) noR K) fun t20 =>
  qop T w (fun w K => opv ((Builtin.len_ #[24] 3 #[t20]).run Tryz.prog w) noR K) fun t21 =>
  qop T w (fun w K => opv ((binOp .add 3 t18 t21).run Tryz.prog w) noR K) fun t22 =>
  ext w fun w =>
  join (upd (upd (mix [13,27,6,3,5] g2 e2) 13 t13) 6 t22) (fun j3 =>
  opv ((binOp .add 3 (g2 5) (.int .i64 1)).run Tryz.prog w) R fun t24 w =>
  opv ((Builtin.len_ #[62] 3 #[t9]).run Tryz.prog w) R fun t26 w =>
  opv ((binOp .lss 3 t24 t26).run Tryz.prog w) R fun t27 w =>
  cond t27 (opv ((binOp .add 3 (g2 5) (.int .i64 1)).run Tryz.prog w) R fun t30 w =>
  opv ((Instr.indexAt 62 t9 t30).run Tryz.prog w) R fun t31 w =>
  opv ((Instr.loadAt 3 t31).run Tryz.prog w) R fun t32 w =>
  j3 (upd (upd (upd (upd (mix [13,27,6,3,5] g2 e2) 13 t13) 6 t22) 27 t27) 6 t32) w)
  (j3 (upd (upd (upd (mix [13,27,6,3,5] g2 e2) 13 t13) 6 t22) 27 t27) w)) fun e3 g3 w =>
  drawn w fun T w =>
  qop T w (fun w K => opv ((Instr.indexAt 62 t9 (g2 5)).run Tryz.prog w) noR K) fun t36 =>
  qop T w (fun w K => opv ((Instr.loadAt 3 t36).run Tryz.prog w) noR K) fun t37 =>
  qop T w (fun w K => opv ((Instr.indexAt 62 t9 (g2 5)).run Tryz.prog w) noR K) fun t41 =>
  qop T w (fun w K => opv ((Instr.loadAt 3 t41).run Tryz.prog w) noR K) fun t42 =>
  qop T w (fun w K => opv ((binOp .sub 3 (g3 6) t42).run Tryz.prog w) noR K) fun t43 =>
  qop T w (fun w K => opv ((binOp .sub 3 t43 (.int .i64 1)).run Tryz.prog w) noR K) fun t44 =>
  qop T w (fun w K => opv ((Instr.fieldAt 27 t1 1).run Tryz.prog w) noR K) fun t45 =>
  qop T w (fun w K => opv ((Instr.loadAt 24 t45).run Tryz.prog w) noR K) fun t46 =>
  qop T w (fun w K => opv ((Instr.indexAt 62 t9 (g2 5)).run Tryz.prog w) noR K) fun t49 =>
  qop T w (fun w K => opv ((Instr.loadAt 3 t49).run Tryz.prog w) noR K) fun t50 =>
  qop T w (fun w K => opv ((Instr.indexAt 24 t46 t50).run Tryz.prog w) noR K) fun t51 =>
  qop T w (fun w K => opv ((Instr.fieldAt 35 t51 0).run Tryz.prog w) noR K) fun t52 =>
  qop T w (fun w K => opv ((Instr.loadAt 5 t52).run Tryz.prog w) noR K) fun t53 =>
  qop T w (fun w K => opv ((binOp .rem 5 t53 (.int .u8 64)).run Tryz.prog w) noR K) fun t54 =>
  qop T w (fun w K => opv ((Instr.build 68 #[(0, t37), (1, t44), (2, t54)]).run Tryz.prog w) noR K) fun t55 =>
  ext w fun w =>
  lop T w (fun w K => opv ((Instr.buildSlice 65 1 #[(0, t55)]).run Tryz.prog w) R K) fun t56 w =>
  ext w fun w =>
  lop T w (fun w K => opv ((Builtin.append_ #[65, 65] 65 #[(g2 3), t56]).run Tryz.prog w) R K) fun t57 w =>
  ext w fun w =>
  opv ((binOp .add 3 (g2 5) (.int .i64 1)).run Tryz.prog w) R fun t15 w =>
  j2 (upd (upd (mix [27,6] g3 e3) 3 t57) 5 t15) w)
  (j1 (upd (mix [13,27,6,3,5] g2 e2) 13 t13) w)) fun e1 g1 w =>
  R (.returned (g1 3)) w
theorem F28.eq (R : Ending → World → Prop) (w : World) (a0 : Value) : F28 R w a0 = shF Tryz.prog 28 [0,1,2,3,4,5,6,13,27] [a0] R w := by kernel_rfl
theorem F28.calls {R : Ending → World → Prop} {w : World} {a0 : Value} (h : F28 R w a0) : Calls Tryz.prog 28 #[a0] w R := shF_sound (F28.eq R w a0 ▸ h)

/-- greenscreen/greenscreenref15.Places -/
def F29 (R : Ending → World → Prop) (w : World) (a0 a1 : Value) : Prop :=
  opv ((Instr.box 27 a0).run Tryz.prog w) R fun t2 w =>
  opv ((Instr.box 68 a1).run Tryz.prog w) R fun t3 w =>
  opv ((Instr.buildSlice 62 0 #[]).run Tryz.prog w) R fun t8 w =>
  opv ((Instr.loadAt 27 t2).run Tryz.prog w) R fun t9 w =>
  opv ((Instr.fieldAt 68 t3 0).run Tryz.prog w) R fun t10 w =>
  opv ((Instr.loadAt 3 t10).run Tryz.prog w) R fun t11 w =>
  callF Tryz.prog 58 #[t9, t11] w R fun t12 w =>
  opv ((Op.unary .not t12).run Tryz.prog w) R fun t13 w =>
  cond t13 (R (.returned t8) w)
  (opv ((Instr.fieldAt 68 t3 1).run Tryz.prog w) R fun t15 w =>
  opv ((Instr.loadAt 3 t15).run Tryz.prog w) R fun t16 w =>
  opv ((Instr.fieldAt 27 t2 1).run Tryz.prog w) R fun t17 w =>
  opv ((Instr.loadAt 24 t17).run Tryz.prog w) R fun t18 w =>
  opv ((Builtin.len_ #[24] 3 #[t18]).run Tryz.prog w) R fun t19 w =>
  callF Tryz.prog 59 #[t16, (.int .i64 0), t19] w R fun t20 w =>
  join (upd (upd (upd (upd (upd (upd (ini [a0, a1]) 2 t2) 3 t3) 4 (.slice none 0 0)) 5 t8) 13 t13) 6 t20) (fun j1 =>
  loop (upd (upd (upd (upd (upd (upd (upd (ini [a0, a1]) 2 t2) 3 t3) 4 (.slice none 0 0)) 5 t8) 13 t13) 6 t20) 7 (.int .i64 1)) w fun e2 g2 w j2 =>
  opv ((binOp .leq 3 (g2 7) t20).run Tryz.prog w) R fun t23 w =>
  cond t23 (opv ((Instr.fieldAt 68 t3 0).run Tryz.prog w) R fun t27 w =>
  opv ((Instr.loadAt 3 t27).run Tryz.prog w) R fun t28 w =>
  opv ((binOp .add 3 t28 (g2 7)).run Tryz.prog w) R fun t30 w =>
  opv ((Instr.fieldAt 27 t2 1).run Tryz.prog w) R fun t31 w =>
  opv ((Instr.loadAt 24 t31).run Tryz.prog w) R fun t32 w =>
  opv ((Builtin.len_ #[24] 3 #[t32]).run Tryz.prog w) R fun t33 w =>
  opv ((binOp .rem 3 t30 t33).run Tryz.prog w) R fun t34 w =>
  opv ((Instr.buildSlice 62 1 #[(0, t34)]).run Tryz.prog w) R fun t35 w =>
  opv ((Builtin.append_ #[62, 62] 62 #[(g2 5), t35]).run Tryz.prog w) R fun t36 w =>
  opv ((binOp .add 3 (g2 7) (.int .i64 1)).run Tryz.prog w) R fun t25 w =>
  j2 (upd (upd (upd (mix [23,5,7] g2 e2) 23 t23) 5 t36) 7 t25) w)
  (j1 (upd (mix [23,5,7] g2 e2) 23 t23) w)) fun e1 g1 w =>
  R (.returned (g1 5)) w)
theorem F29.eq (R : Ending → World → Prop) (w : World) (a0 a1 : Value) : F29 R w a0 a1 = shF Tryz.prog 29 [0,1,2,3,4,5,6,7,13,23] [a0, a1] R w := by kernel_rfl
theorem F29.calls {R : Ending → World → Prop} {w : World} {a0 a1 : Value} (h : F29 R w a0 a1) : Calls Tryz.prog 29 #[a0, a1] w R := shF_sound (F29.eq R w a0 a1 ▸ h)

/-- (*greenscreen/grammar.reader).buffer -/
def F31 (R : Ending → World → Prop) (w : World) (a0 : Value) : Prop :=
  opv ((Instr.alloc 73 true (.tuple #[])).run Tryz.prog w) R fun t2 w =>
  callF Tryz.prog 50 #[a0] w R fun t5 w =>
  callF Tryz.prog 51 #[a0] w R fun t7 w =>
  opv ((Instr.build 73 #[(0, t5), (1, t7)]).run Tryz.prog w) R fun t8 w =>
  opv ((Instr.alloc 73 true (.tuple #[])).run Tryz.prog w) R fun t3 w =>
  opu ((Instr.storeAt 73 t3 t8).run Tryz.prog w) R fun _ w =>
  join (upd (upd (ini [a0]) 2 t2) 3 t3) (fun j1 =>
  loop (upd (upd (ini [a0]) 2 t2) 3 t3) w fun e2 g2 w j2 =>
  nilck a0 w fun t10 w =>
  opv ((Instr.fieldAt 105 t10 0).run Tryz.prog w) R fun t11 w =>
  opv ((Instr.loadAt 43 t11).run Tryz.prog w) R fun t12 w =>
  opv ((Builtin.len_ #[43] 3 #[t12]).run Tryz.prog w) R fun t13 w =>
  opv ((binOp .gtr 3 t13 (.int .i64 0)).run Tryz.prog w) R fun t14 w =>
  cond t14 (nilck a0 w fun t16 w =>
  opv ((Instr.fieldAt 105 t16 0).run Tryz.prog w) R fun t17 w =>
  opv ((Instr.loadAt 43 t17).run Tryz.prog w) R fun t18 w =>
  opv ((Instr.indexAt 43 t18 (.int .i64 0)).run Tryz.prog w) R fun t19 w =>
  opv ((Instr.loadAt 5 t19).run Tryz.prog w) R fun t20 w =>
  opv ((binE true .eql 5 t20 (.int .u8 29)).run Tryz.prog w) R fun t21 w =>
  cond t21 (callF Tryz.prog 50 #[a0] w R fun t23 w =>
  drawn w fun T w =>
  qop T w (fun w K => opv ((Instr.fieldAt 73 t3 2).run Tryz.prog w) noR K) fun t24 =>
  qop T w (fun w K => opv ((Instr.loadAt 24 t24).run Tryz.prog w) noR K) fun t25 =>
  ext w fun w =>
  lop T w (fun w K => callF Tryz.prog 50 #[a0] w R K) fun t27 w =>
  qop T w (fun w K => opv ((binOp .and 5 t27 (.int .u8 63)).run Tryz.prog w) noR K) fun t28 =>
  qop T w (fun w K => opv ((Instr.build 35 #[(0, t28), (2, (.bool true))]).run Tryz.prog w) noR K) fun t29 =>
  ext w fun w =>
  lop T w (fun w K => opv ((Instr.buildSlice 24 1 #[(0, t29)]).run Tryz.prog w) R K) fun t30 w =>
  ext w fun w =>
  lop T w (fun w K => opv ((Builtin.append_ #[24, 24] 24 #[t25, t30]).run Tryz.prog w) R K) fun t31 w =>
  qop T w (fun w K => opv ((Instr.fieldAt 73 t3 2).run Tryz.prog w) noR K) fun t32 =>
  ext w fun w =>
  opu ((Instr.storeAt 24 t32 t31).run Tryz.prog w) R fun _ w =>
  ext w fun w =>
  j2 (upd (upd (mix [14,21] g2 e2) 14 t14) 21 t21) w)
  (drawn w fun T w =>
  qop T w (fun w K => opv ((Instr.fieldAt 73 t3 2).run Tryz.prog w) noR K) fun t33 =>
  qop T w (fun w K => opv ((Instr.loadAt 24 t33).run Tryz.prog w) noR K) fun t34 =>
  ext w fun w =>
  lop T w (fun w K => callF Tryz.prog 61 #[a0] w R K) fun t36 w =>
  ext w fun w =>
  lop T w (fun w K => opv ((Instr.buildSlice 24 1 #[(0, t36)]).run Tryz.prog w) R K) fun t37 w =>
  ext w fun w =>
  lop T w (fun w K => opv ((Builtin.append_ #[24, 24] 24 #[t34, t37]).run Tryz.prog w) R K) fun t38 w =>
  qop T w (fun w K => opv ((Instr.fieldAt 73 t3 2).run Tryz.prog w) noR K) fun t39 =>
  ext w fun w =>
  opu ((Instr.storeAt 24 t39 t38).run Tryz.prog w) R fun _ w =>
  ext w fun w =>
  j2 (upd (upd (mix [14,21] g2 e2) 14 t14) 21 t21) w))
  (j1 (upd (mix [14,21] g2 e2) 14 t14) w)) fun e1 g1 w =>
  opv ((Instr.loadAt 73 t3).run Tryz.prog w) R fun t40 w =>
  opu ((Instr.storeAt 73 t2 t40).run Tryz.prog w) R fun _ w =>
  ldv ((Instr.loadAt 73 t2).run Tryz.prog w) w fun r0 =>
  R (.returned r0) w
theorem F31.eq (R : Ending → World → Prop) (w : World) (a0 : Value) : F31 R w a0 = shF Tryz.prog 31 [0,2,3,14,21] [a0] R w := by kernel_rfl
theorem F31.calls {R : Ending → World → Prop} {w : World} {a0 : Value} (h : F31 R w a0) : Calls Tryz.prog 31 #[a0] w R := shF_sound (F31.eq R w a0 ▸ h)

/-- greenscreen/reply.place -/
def F32 (R : Ending → World → Prop) (w : World) (a0 a1 : Value) : Prop :=
  callF Tryz.prog 34 #[a0] w R fun t10 w =>
  callF Tryz.prog 39 #[a1, t10] w R fun t11 w =>
  opv ((Instr.extract t11 0).run Tryz.prog w) R fun t12 w =>
  opv ((Instr.extract t11 1).run Tryz.prog w) R fun t13 w =>
  opv ((Instr.alloc 83 true (.tuple #[])).run Tryz.prog w) R fun t5 w =>
  opu ((Instr.storeAt 83 t5 t12).run Tryz.prog w) R fun _ w =>
  opv ((Instr.sliceAt 83 t5 none none none).run Tryz.prog w) R fun t14 w =>
  R (.returned t14) w
theorem F32.eq (R : Ending → World → Prop) (w : World) (a0 a1 : Value) : F32 R w a0 a1 = shF Tryz.prog 32 [0,1,4,5] [a0, a1] R w := by kernel_rfl
theorem F32.calls {R : Ending → World → Prop} {w : World} {a0 a1 : Value} (h : F32 R w a0 a1) : Calls Tryz.prog 32 #[a0, a1] w R := shF_sound (F32.eq R w a0 a1 ▸ h)

/-- (*greenscreen/plane.Plane).Cursor -/
def F33 (R : Ending → World → Prop) (w : World) (a0 : Value) : Prop :=
  nilck a0 w fun t4 w =>
  opv ((Instr.fieldAt 57 t4 2).run Tryz.prog w) R fun t5 w =>
  opv ((Instr.loadAt 3 t5).run Tryz.prog w) R fun t6 w =>
  R (.returned t6) w
theorem F33.eq (R : Ending → World → Prop) (w : World) (a0 : Value) : F33 R w a0 = shF Tryz.prog 33 [0,2] [a0] R w := by kernel_rfl
theorem F33.calls {R : Ending → World → Prop} {w : World} {a0 : Value} (h : F33 R w a0) : Calls Tryz.prog 33 #[a0] w R := shF_sound (F33.eq R w a0 ▸ h)

/-- (*greenscreen/plane.Plane).Len -/
def F34 (R : Ending → World → Prop) (w : World) (a0 : Value) : Prop :=
  nilck a0 w fun t4 w =>
  opv ((Instr.fieldAt 57 t4 1).run Tryz.prog w) R fun t5 w =>
  opv ((Instr.loadAt 24 t5).run Tryz.prog w) R fun t6 w =>
  opv ((Builtin.len_ #[24] 3 #[t6]).run Tryz.prog w) R fun t7 w =>
  R (.returned t7) w
theorem F34.eq (R : Ending → World → Prop) (w : World) (a0 : Value) : F34 R w a0 = shF Tryz.prog 34 [0,2] [a0] R w := by kernel_rfl
theorem F34.calls {R : Ending → World → Prop} {w : World} {a0 : Value} (h : F34 R w a0) : Calls Tryz.prog 34 #[a0] w R := shF_sound (F34.eq R w a0 ▸ h)

/-- (*greenscreen/plane.Plane).At -/
def F35 (R : Ending → World → Prop) (w : World) (a0 a1 : Value) : Prop :=
  opv ((Instr.alloc 35 true (.tuple #[])).run Tryz.prog w) R fun t4 w =>
  callF Tryz.prog 21 #[a0, a1] w R fun t7 w =>
  opv ((Op.unary .not t7).run Tryz.prog w) R fun t8 w =>
  cond t8 (opv ((Instr.build 35 #[]).run Tryz.prog w) R fun t9 w =>
  opu ((Instr.storeAt 35 t4 t9).run Tryz.prog w) R fun _ w =>
  ldv ((Instr.loadAt 35 t4).run Tryz.prog w) w fun r0 =>
  R (.returned r0) w)
  (nilck a0 w fun t11 w =>
  opv ((Instr.fieldAt 57 t11 1).run Tryz.prog w) R fun t12 w =>
  opv ((Instr.loadAt 24 t12).run Tryz.prog w) R fun t13 w =>
  opv ((Instr.indexAt 24 t13 a1).run Tryz.prog w) R fun t15 w =>
  opv ((Instr.loadAt 35 t15).run Tryz.prog w) R fun t16 w =>
  opu ((Instr.storeAt 35 t4 t16).run Tryz.prog w) R fun _ w =>
  ldv ((Instr.loadAt 35 t4).run Tryz.prog w) w fun r0 =>
  R (.returned r0) w)
theorem F35.eq (R : Ending → World → Prop) (w : World) (a0 a1 : Value) : F35 R w a0 a1 = shF Tryz.prog 35 [0,1,4,8] [a0, a1] R w := by kernel_rfl
theorem F35.calls {R : Ending → World → Prop} {w : World} {a0 a1 : Value} (h : F35 R w a0 a1) : Calls Tryz.prog 35 #[a0, a1] w R := shF_sound (F35.eq R w a0 a1 ▸ h)

/-- greenscreen/attr.Byte -/
def F36 (R : Ending → World → Prop) (w : World) (a0 : Value) : Prop :=
  opv ((convert 5 3 a0).run Tryz.prog w) R fun t4 w =>
  callF Tryz.prog 62 #[t4] w R fun t5 w =>
  R (.returned t5) w
theorem F36.eq (R : Ending → World → Prop) (w : World) (a0 : Value) : F36 R w a0 = shF Tryz.prog 36 [0,2] [a0] R w := by kernel_rfl
theorem F36.calls {R : Ending → World → Prop} {w : World} {a0 : Value} (h : F36 R w a0) : Calls Tryz.prog 36 #[a0] w R := shF_sound (F36.eq R w a0 ▸ h)

/-- greenscreen/reply.bytes -/
def F37 (R : Ending → World → Prop) (w : World) (a0 : Value) : Prop :=
  opv ((Instr.box 35 a0).run Tryz.prog w) R fun t1 w =>
  opv ((Instr.fieldAt 35 t1 1).run Tryz.prog w) R fun t4 w =>
  opv ((Instr.loadAt 4 t4).run Tryz.prog w) R fun t5 w =>
  gd t5 true (fun K => opv ((Instr.fieldAt 35 t1 0).run Tryz.prog w) R K) w fun t7 w =>
  gd t5 true (fun K => opv ((Instr.loadAt 5 t7).run Tryz.prog w) R K) w fun t8 w =>
  gd t5 true (fun K => opv ((binOp .lss 5 t8 (.int .u8 64)).run Tryz.prog w) R K) w fun t9 w =>
  pick t5 t9 (.bool false) w fun t10 w =>
  cond t10 (opv ((Instr.buildSlice 43 2 #[(0, (.int .u8 8)), (1, (.int .u8 64))]).run Tryz.prog w) R fun t11 w =>
  R (.returned t11) w)
  (opv ((Instr.fieldAt 35 t1 1).run Tryz.prog w) R fun t13 w =>
  opv ((Instr.loadAt 4 t13).run Tryz.prog w) R fun t14 w =>
  cond t14 (opv ((Instr.fieldAt 35 t1 0).run Tryz.prog w) R fun t15 w =>
  opv ((Instr.loadAt 5 t15).run Tryz.prog w) R fun t16 w =>
  opv ((Instr.buildSlice 43 2 #[(0, (.int .u8 8)), (1, t16)]).run Tryz.prog w) R fun t17 w =>
  R (.returned t17) w)
  (opv ((Instr.fieldAt 35 t1 0).run Tryz.prog w) R fun t19 w =>
  opv ((Instr.loadAt 5 t19).run Tryz.prog w) R fun t20 w =>
  callF Tryz.prog 63 #[t20] w R fun t21 w =>
  opv ((Op.unary .not t21).run Tryz.prog w) R fun t22 w =>
  cond t22 (opv ((Instr.buildSlice 43 1 #[(0, (.int .u8 64))]).run Tryz.prog w) R fun t23 w =>
  R (.returned t23) w)
  (opv ((Instr.fieldAt 35 t1 0).run Tryz.prog w) R fun t24 w =>
  opv ((Instr.loadAt 5 t24).run Tryz.prog w) R fun t25 w =>
  opv ((Instr.buildSlice 43 1 #[(0, t25)]).run Tryz.prog w) R fun t26 w =>
  R (.returned t26) w)))
theorem F37.eq (R : Ending → World → Prop) (w : World) (a0 : Value) : F37 R w a0 = shF Tryz.prog 37 [0,1,2,3,12,18] [a0] R w := by kernel_rfl
theorem F37.calls {R : Ending → World → Prop} {w : World} {a0 : Value} (h : F37 R w a0) : Calls Tryz.prog 37 #[a0] w R := shF_sound (F37.eq R w a0 ▸ h)

/-- greenscreen/greenscreenref23.Bytes -/
def F38 (R : Ending → World → Prop) (w : World) (a0 : Value) : Prop :=
  opv ((Instr.box 35 a0).run Tryz.prog w) R fun t1 w =>
  opv ((Instr.fieldAt 35 t1 1).run Tryz.prog w) R fun t3 w =>
  opv ((Instr.loadAt 4 t3).run Tryz.prog w) R fun t4 w =>
  cond t4 (opv ((Instr.fieldAt 35 t1 0).run Tryz.prog w) R fun t5 w =>
  opv ((Instr.loadAt 5 t5).run Tryz.prog w) R fun t6 w =>
  opv ((binOp .lss 5 t6 (.int .u8 64)).run Tryz.prog w) R fun t7 w =>
  cond t7 (opv ((Instr.buildSlice 43 2 #[(0, (.int .u8 8)), (1, (.int .u8 64))]).run Tryz.prog w) R fun t8 w =>
  R (.returned t8) w)
  (opv ((Instr.fieldAt 35 t1 0).run Tryz.prog w) R fun t9 w =>
  opv ((Instr.loadAt 5 t9).run Tryz.prog w) R fun t10 w =>
  opv ((Instr.buildSlice 43 2 #[(0, (.int .u8 8)), (1, t10)]).run Tryz.prog w) R fun t11 w =>
  R (.returned t11) w))
  (opv ((Instr.fieldAt 35 t1 0).run Tryz.prog w) R fun t12 w =>
  opv ((Instr.loadAt 5 t12).run Tryz.prog w) R fun t13 w =>
  callF Tryz.prog 64 #[t13] w R fun t14 w =>
  opv ((Op.unary .not t14).run Tryz.prog w) R fun t15 w =>
  cond t15 (opv ((Instr.buildSlice 43 1 #[(0, (.int .u8 64))]).run Tryz.prog w) R fun t16 w =>
  R (.returned t16) w)
  (opv ((Instr.fieldAt 35 t1 0).run Tryz.prog w) R fun t17 w =>
  opv ((Instr.loadAt 5 t17).run Tryz.prog w) R fun t18 w =>
  opv ((Instr.buildSlice 43 1 #[(0, t18)]).run Tryz.prog w) R fun t19 w =>
  R (.returned t19) w))
theorem F38.eq (R : Ending → World → Prop) (w : World) (a0 : Value) : F38 R w a0 = shF Tryz.prog 38 [0,1,2,4,7,15] [a0] R w := by kernel_rfl
theorem F38.calls {R : Ending → World → Prop} {w : World} {a0 : Value} (h : F38 R w a0) : Calls Tryz.prog 38 #[a0] w R := shF_sound (F38.eq R w a0 ▸ h)

/-- greenscreen/addr.Encode -/
def F39 (R : Ending → World → Prop) (w : World) (a0 a1 : Value) : Prop :=
  opv ((Instr.alloc 83 true (.tuple #[])).run Tryz.prog w) R fun t4 w =>
  opv ((binOp .lss 3 a1 (.int .i64 1)).run Tryz.prog w) R fun t8 w =>
  gd t8 false (fun K => K a1 w) w fun t10 w =>
  gd t8 false (fun K => opv ((binOp .gtr 3 t10 (.int .i64 16384)).run Tryz.prog w) R K) w fun t11 w =>
  pick t8 (.bool true) t11 w fun t12 w =>
  gd t12 false (fun K => K a0 w) w fun t14 w =>
  gd t12 false (fun K => opv ((binOp .lss 3 t14 (.int .i64 0)).run Tryz.prog w) R K) w fun t15 w =>
  pick t12 (.bool true) t15 w fun t16 w =>
  gd t16 false (fun K => K a0 w) w fun t18 w =>
  gd t16 false (fun K => K a1 w) w fun t19 w =>
  gd t16 false (fun K => opv ((binOp .geq 3 t18 t19).run Tryz.prog w) R K) w fun t20 w =>
  pick t16 (.bool true) t20 w fun t21 w =>
  cond t21 (opv ((Instr.build 83 #[]).run Tryz.prog w) R fun t22 w =>
  opu ((Instr.storeAt 83 t4 t22).run Tryz.prog w) R fun _ w =>
  ldv ((Instr.loadAt 83 t4).run Tryz.prog w) w fun r0 =>
  R (.returned (.tuple #[r0, (.int .i64 1)])) w)
  (opv ((binOp .gtr 3 a1 (.int .i64 4096)).run Tryz.prog w) R fun t25 w =>
  cond t25 (opv ((binOp .shr 3 a0 (.int .u64 8)).run Tryz.prog w) R fun t27 w =>
  opv ((convert 3 5 t27).run Tryz.prog w) R fun t28 w =>
  opv ((convert 3 5 a0).run Tryz.prog w) R fun t30 w =>
  opv ((Instr.build 83 #[(0, t28), (1, t30)]).run Tryz.prog w) R fun t31 w =>
  opu ((Instr.storeAt 83 t4 t31).run Tryz.prog w) R fun _ w =>
  ldv ((Instr.loadAt 83 t4).run Tryz.prog w) w fun r0 =>
  R (.returned (.tuple #[r0, (.int .i64 0)])) w)
  (opv ((binOp .shr 3 a0 (.int .u64 6)).run Tryz.prog w) R fun t33 w =>
  callF Tryz.prog 62 #[t33] w R fun t34 w =>
  callF Tryz.prog 62 #[a0] w R fun t36 w =>
  opv ((Instr.build 83 #[(0, t34), (1, t36)]).run Tryz.prog w) R fun t37 w =>
  opu ((Instr.storeAt 83 t4 t37).run Tryz.prog w) R fun _ w =>
  ldv ((Instr.loadAt 83 t4).run Tryz.prog w) w fun r0 =>
  R (.returned (.tuple #[r0, (.int .i64 0)])) w))
theorem F39.eq (R : Ending → World → Prop) (w : World) (a0 a1 : Value) : F39 R w a0 a1 = shF Tryz.prog 39 [0,1,4,5,6,23] [a0, a1] R w := by kernel_rfl
theorem F39.calls {R : Ending → World → Prop} {w : World} {a0 a1 : Value} (h : F39 R w a0 a1) : Calls Tryz.prog 39 #[a0, a1] w R := shF_sound (F39.eq R w a0 a1 ▸ h)

/-- greenscreen/grammar.item -/
def F40 (R : Ending → World → Prop) (w : World) (a0 a1 a2 : Value) : Prop :=
  opv ((Instr.box 71 a0).run Tryz.prog w) R fun t3 w =>
  join (upd (upd (upd (upd (ini [a0, a1, a2]) 3 t3) 6 (.slice none 0 0)) 7 (.int .i64 0)) 8 (.slice none 0 0)) (fun j1 =>
  opv ((Instr.fieldAt 71 t3 0).run Tryz.prog w) R fun t13 w =>
  opv ((Instr.loadAt 3 t13).run Tryz.prog w) R fun t14 w =>
  opv ((binE true .neq 3 t14 (.int .i64 (-1))).run Tryz.prog w) R fun t15 w =>
  gd t15 false (fun K => K a1 w) w fun t17 w =>
  gd t15 false (fun K => opv ((Op.unary .not t17).run Tryz.prog w) R K) w fun t18 w =>
  pick t15 (.bool true) t18 w fun t19 w =>
  cond t19 (opv ((Instr.fieldAt 71 t3 0).run Tryz.prog w) R fun t21 w =>
  opv ((Instr.loadAt 3 t21).run Tryz.prog w) R fun t22 w =>
  callF Tryz.prog 39 #[t22, a2] w R fun t24 w =>
  opv ((Instr.extract t24 0).run Tryz.prog w) R fun t25 w =>
  opv ((Instr.extract t24 1).run Tryz.prog w) R fun t26 w =>
  opv ((Instr.alloc 83 true (.tuple #[])).run Tryz.prog w) R fun t9 w =>
  opu ((Instr.storeAt 83 t9 t25).run Tryz.prog w) R fun _ w =>
  opv ((binE true .neq 31 t26 (.int .i64 0)).run Tryz.prog w) R fun t28 w =>
  cond t28 (R (.returned (.tuple #[(.slice none 0 0), (.int .i64 32)])) w)
  (opv ((Instr.indexAt 83 t9 (.int .i64 0)).run Tryz.prog w) R fun t30 w =>
  opv ((Instr.loadAt 5 t30).run Tryz.prog w) R fun t31 w =>
  opv ((Instr.indexAt 83 t9 (.int .i64 1)).run Tryz.prog w) R fun t32 w =>
  opv ((Instr.loadAt 5 t32).run Tryz.prog w) R fun t33 w =>
  opv ((Instr.buildSlice 43 3 #[(0, (.int .u8 17)), (1, t31), (2, t33)]).run Tryz.prog w) R fun t34 w =>
  opv ((Builtin.append_ #[43, 43] 43 #[(.slice none 0 0), t34]).run Tryz.prog w) R fun t35 w =>
  j1 (upd (upd (upd (upd (upd (upd (upd (upd (upd (ini [a0, a1, a2]) 3 t3) 6 (.slice none 0 0)) 7 (.int .i64 0)) 8 (.slice none 0 0)) 19 t19) 9 t9) 10 t26) 28 t28) 8 t35) w))
  (j1 (upd (upd (upd (upd (upd (ini [a0, a1, a2]) 3 t3) 6 (.slice none 0 0)) 7 (.int .i64 0)) 8 (.slice none 0 0)) 19 t19) w)) fun e1 g1 w =>
  join (mix [19,9,10,28,6,7,8] g1 e1) (fun j2 =>
  opv ((Instr.fieldAt 71 t3 1).run Tryz.prog w) R fun t36 w =>
  opv ((Instr.loadAt 24 t36).run Tryz.prog w) R fun t37 w =>
  opv ((Builtin.len_ #[24] 3 #[t37]).run Tryz.prog w) R fun t38 w =>
  loop (upd (upd (upd (mix [19,9,10,28,6,7,8] g1 e1) 37 t37) 38 t38) 39 (.int .i64 0)) w fun e3 g3 w j3 =>
  opv ((binOp .lss 3 (g3 39) t38).run Tryz.prog w) R fun t40 w =>
  cond t40 (opv ((Instr.indexAt 24 t37 (g3 39)).run Tryz.prog w) R fun t41 w =>
  opv ((Instr.loadAt 35 t41).run Tryz.prog w) R fun t42 w =>
  opv ((Instr.alloc 35 true (.tuple #[])).run Tryz.prog w) R fun t12 w =>
  opu ((Instr.storeAt 35 t12 t42).run Tryz.prog w) R fun _ w =>
  opv ((Instr.loadAt 35 t12).run Tryz.prog w) R fun t43 w =>
  callF Tryz.prog 65 #[t43] w R fun t44 w =>
  opv ((Op.unary .not t44).run Tryz.prog w) R fun t45 w =>
  cond t45 (R (.returned (.tuple #[(.slice none 0 0), (.int .i64 21)])) w)
  (join (upd (upd (upd (mix [40,12,45,6,7,47,8,39] g3 e3) 40 t40) 12 t12) 45 t45) (fun j4 =>
  opv ((Instr.fieldAt 35 t12 1).run Tryz.prog w) R fun t46 w =>
  opv ((Instr.loadAt 4 t46).run Tryz.prog w) R fun t47 w =>
  cond t47 (opv ((Instr.buildSlice 43 1 #[(0, (.int .u8 8))]).run Tryz.prog w) R fun t49 w =>
  opv ((Builtin.append_ #[43, 43] 43 #[(g3 8), t49]).run Tryz.prog w) R fun t50 w =>
  j4 (upd (upd (upd (upd (upd (mix [40,12,45,6,7,47,8,39] g3 e3) 40 t40) 12 t12) 45 t45) 47 t47) 8 t50) w)
  (j4 (upd (upd (upd (upd (mix [40,12,45,6,7,47,8,39] g3 e3) 40 t40) 12 t12) 45 t45) 47 t47) w)) fun e4 g4 w =>
  opv ((Instr.fieldAt 35 t12 0).run Tryz.prog w) R fun t52 w =>
  opv ((Instr.loadAt 5 t52).run Tryz.prog w) R fun t53 w =>
  opv ((Instr.buildSlice 43 1 #[(0, t53)]).run Tryz.prog w) R fun t54 w =>
  opv ((Builtin.append_ #[43, 43] 43 #[(g4 8), t54]).run Tryz.prog w) R fun t55 w =>
  opv ((binOp .add 3 (g3 39) (.int .i64 1)).run Tryz.prog w) R fun t56 w =>
  j3 (upd (upd (mix [47,8] g4 e4) 8 t55) 39 t56) w))
  (j2 (upd (mix [40,12,45,6,7,47,8,39] g3 e3) 40 t40) w)) fun e2 g2 w =>
  R (.returned (.tuple #[(g2 8), (.int .i64 0)])) w
theorem F40.eq (R : Ending → World → Prop) (w : World) (a0 a1 a2 : Value) : F40 R w a0 a1 a2 = shF Tryz.prog 40 [0,1,2,3,6,7,8,9,10,12,19,28,37,38,39,40,45,47] [a0, a1, a2] R w := by kernel_rfl
theorem F40.calls {R : Ending → World → Prop} {w : World} {a0 a1 a2 : Value} (h : F40 R w a0 a1 a2) : Calls Tryz.prog 40 #[a0, a1, a2] w R := shF_sound (F40.eq R w a0 a1 a2 ▸ h)

/-- greenscreen/grammar.name -/
def F41 (R : Ending → World → Prop) (w : World) (a0 : Value) : Prop :=
  opv ((Instr.build 118 #[(0, (.int .i64 17)), (1, a0)]).run Tryz.prog w) R fun t5 w =>
  callF Tryz.prog 66 #[t5] w R fun t6 w =>
  opv ((binE true .neq 9 t6 (.string ⟨#[]⟩)).run Tryz.prog w) R fun t8 w =>
  cond t8 (R (.returned t6) w)
  (drawn w fun T w =>
  qop T w (fun w K => opv ((binOp .shr 5 a0 (.int .u64 4)).run Tryz.prog w) noR K) fun t11 =>
  qop T w (fun w K => opv ((binOp .shr 5 a0 (.int .u64 4)).run Tryz.prog w) noR K) fun t13 =>
  qop T w (fun w K => opv ((binOp .add 5 t13 (.int .u8 1)).run Tryz.prog w) noR K) fun t14 =>
  qop T w (fun w K => opv ((Instr.sliceAt 9 (.string ⟨#[48, 49, 50, 51, 52, 53, 54, 55, 56, 57, 65, 66, 67, 68, 69, 70]⟩) (some t11) (some t14) none).run Tryz.prog w) noR K) fun t15 =>
  qop T w (fun w K => opv ((binOp .and 5 a0 (.int .u8 15)).run Tryz.prog w) noR K) fun t17 =>
  qop T w (fun w K => opv ((binOp .and 5 a0 (.int .u8 15)).run Tryz.prog w) noR K) fun t19 =>
  qop T w (fun w K => opv ((binOp .add 5 t19 (.int .u8 1)).run Tryz.prog w) noR K) fun t20 =>
  qop T w (fun w K => opv ((Instr.sliceAt 9 (.string ⟨#[48, 49, 50, 51, 52, 53, 54, 55, 56, 57, 65, 66, 67, 68, 69, 70]⟩) (some t17) (some t20) none).run Tryz.prog w) noR K) fun t21 =>
  qop T w (fun w K => opv ((binOp .add 9 t15 t21).run Tryz.prog w) noR K) fun t22 =>
  ext w fun w =>
  R (.returned t22) w)
theorem F41.eq (R : Ending → World → Prop) (w : World) (a0 : Value) : F41 R w a0 = shF Tryz.prog 41 [0,2,3,8] [a0] R w := by kernel_rfl
theorem F41.calls {R : Ending → World → Prop} {w : World} {a0 : Value} (h : F41 R w a0) : Calls Tryz.prog 41 #[a0] w R := shF_sound (F41.eq R w a0 ▸ h)

/-- strconv.Itoa -/
def F43 (R : Ending → World → Prop) (w : World) (a0 : Value) : Prop :=
  callF Tryz.prog 68 #[a0] w R fun t4 w =>
  R (.returned t4) w
theorem F43.eq (R : Ending → World → Prop) (w : World) (a0 : Value) : F43 R w a0 = shF Tryz.prog 43 [0,2] [a0] R w := by kernel_rfl
theorem F43.calls {R : Ending → World → Prop} {w : World} {a0 : Value} (h : F43 R w a0) : Calls Tryz.prog 43 #[a0] w R := shF_sound (F43.eq R w a0 ▸ h)

/-- greenscreen/grammar.sign -/
def F44 (R : Ending → World → Prop) (w : World) (a0 a1 : Value) : Prop :=
  opv ((Instr.box 35 a1).run Tryz.prog w) R fun t3 w =>
  opv ((Instr.fieldAt 35 t3 2).run Tryz.prog w) R fun t6 w =>
  opv ((Instr.loadAt 4 t6).run Tryz.prog w) R fun t7 w =>
  gd t7 false (fun K => opv ((Instr.fieldAt 35 t3 1).run Tryz.prog w) R K) w fun t9 w =>
  gd t7 false (fun K => opv ((Instr.loadAt 4 t9).run Tryz.prog w) R K) w fun t10 w =>
  gd t7 false (fun K => opv ((Op.unary .not t10).run Tryz.prog w) R K) w fun t11 w =>
  gd t7 false (fun K => K t11 w) w fun t12 w =>
  gd t12 true (fun K => opv ((Instr.fieldAt 35 t3 0).run Tryz.prog w) R K) w fun t13 w =>
  gd t12 true (fun K => opv ((Instr.loadAt 5 t13).run Tryz.prog w) R K) w fun t14 w =>
  gd t12 true (fun K => callF Tryz.prog 69 #[t14] w R K) w fun t15 w =>
  gd t12 true (fun K => opv ((Op.unary .not t15).run Tryz.prog w) R K) w fun t16 w =>
  gd t7 false (fun K => pick t12 t16 (.bool false) w K) w fun t17 w =>
  pick t7 (.bool true) t17 w fun t18 w =>
  cond t18 (R (.returned (.string ⟨#[32]⟩)) w)
  (opv ((Instr.fieldAt 35 t3 1).run Tryz.prog w) R fun t20 w =>
  opv ((Instr.loadAt 4 t20).run Tryz.prog w) R fun t21 w =>
  cond t21 (opv ((Instr.fieldAt 35 t3 0).run Tryz.prog w) R fun t22 w =>
  opv ((Instr.loadAt 5 t22).run Tryz.prog w) R fun t23 w =>
  callF Tryz.prog 70 #[t23] w R fun t24 w =>
  opv ((convert 21 9 t24).run Tryz.prog w) R fun t25 w =>
  R (.returned t25) w)
  (opv ((Instr.fieldAt 35 t3 0).run Tryz.prog w) R fun t27 w =>
  opv ((Instr.loadAt 5 t27).run Tryz.prog w) R fun t28 w =>
  callF Tryz.prog 71 #[a0, t28] w R fun t29 w =>
  opv ((convert 21 9 t29).run Tryz.prog w) R fun t30 w =>
  R (.returned t30) w))
theorem F44.eq (R : Ending → World → Prop) (w : World) (a0 a1 : Value) : F44 R w a0 a1 = shF Tryz.prog 44 [0,1,3,4,5,19] [a0, a1] R w := by kernel_rfl
theorem F44.calls {R : Ending → World → Prop} {w : World} {a0 a1 : Value} (h : F44 R w a0 a1) : Calls Tryz.prog 44 #[a0, a1] w R := shF_sound (F44.eq R w a0 a1 ▸ h)

/-- greenscreen/grammar.Same$1 -/
def F46 (R : Ending → World → Prop) (w : World) (a0 a1 : Value) : Prop :=
  opv ((Instr.box 71 a0).run Tryz.prog w) R fun t2 w =>
  opv ((Instr.box 71 a1).run Tryz.prog w) R fun t3 w =>
  opv ((Instr.fieldAt 71 t2 0).run Tryz.prog w) R fun t5 w =>
  opv ((Instr.loadAt 3 t5).run Tryz.prog w) R fun t6 w =>
  opv ((Instr.fieldAt 71 t3 0).run Tryz.prog w) R fun t7 w =>
  opv ((Instr.loadAt 3 t7).run Tryz.prog w) R fun t8 w =>
  opv ((binE false .eql 3 t6 t8).run Tryz.prog w) R fun t9 w =>
  gd t9 true (fun K => opv ((Instr.fieldAt 71 t2 1).run Tryz.prog w) R K) w fun t11 w =>
  gd t9 true (fun K => opv ((Instr.loadAt 24 t11).run Tryz.prog w) R K) w fun t12 w =>
  gd t9 true (fun K => opv ((Instr.fieldAt 71 t3 1).run Tryz.prog w) R K) w fun t13 w =>
  gd t9 true (fun K => opv ((Instr.loadAt 24 t13).run Tryz.prog w) R K) w fun t14 w =>
  gd t9 true (fun K => callF Tryz.prog 47 #[t12, t14] w R K) w fun t15 w =>
  pick t9 t15 (.bool false) w fun t16 w =>
  R (.returned t16) w
theorem F46.eq (R : Ending → World → Prop) (w : World) (a0 a1 : Value) : F46 R w a0 a1 = shF Tryz.prog 46 [0,1,2,3,4] [a0, a1] R w := by kernel_rfl
theorem F46.calls {R : Ending → World → Prop} {w : World} {a0 a1 : Value} (h : F46 R w a0 a1) : Calls Tryz.prog 46 #[a0, a1] w R := shF_sound (F46.eq R w a0 a1 ▸ h)

/-- slices.Equal[[]greenscreen/api.Cell,greenscreen/api.Cell] -/
def F47 (R : Ending → World → Prop) (w : World) (a0 a1 : Value) : Prop :=
  opv ((Builtin.len_ #[24] 3 #[a0]).run Tryz.prog w) R fun t7 w =>
  opv ((Builtin.len_ #[24] 3 #[a1]).run Tryz.prog w) R fun t9 w =>
  opv ((binE false .neq 3 t7 t9).run Tryz.prog w) R fun t10 w =>
  cond t10 (R (.returned (.bool false)) w)
  (join (upd (upd (ini [a0, a1]) 4 (.bool false)) 10 t10) (fun j1 =>
  opv ((Builtin.len_ #[24] 3 #[a0]).run Tryz.prog w) R fun t12 w =>
  loop (upd (upd (upd (upd (ini [a0, a1]) 4 (.bool false)) 10 t10) 12 t12) 13 (.int .i64 0)) w fun e2 g2 w j2 =>
  opv ((binOp .lss 3 (g2 13) t12).run Tryz.prog w) R fun t14 w =>
  cond t14 (drawn w fun T w =>
  qop T w (fun w K => opv ((Instr.indexAt 24 a0 (g2 13)).run Tryz.prog w) noR K) fun t18 =>
  qop T w (fun w K => opv ((Instr.loadAt 35 t18).run Tryz.prog w) noR K) fun t19 =>
  qop T w (fun w K => opv ((Instr.indexAt 24 a1 (g2 13)).run Tryz.prog w) noR K) fun t22 =>
  qop T w (fun w K => opv ((Instr.loadAt 35 t22).run Tryz.prog w) noR K) fun t23 =>
  qop T w (fun w K => opv ((binE false .neq 35 t19 t23).run Tryz.prog w) noR K) fun t24 =>
  ext w fun w =>
  cond t24 (R (.returned (.bool false)) w)
  (opv ((binOp .add 3 (g2 13) (.int .i64 1)).run Tryz.prog w) R fun t25 w =>
  j2 (upd (upd (upd (upd (mix [14,5,24,4,13] g2 e2) 14 t14) 5 (g2 13)) 24 t24) 13 t25) w))
  (j1 (upd (mix [14,5,24,4,13] g2 e2) 14 t14) w)) fun e1 g1 w =>
  R (.returned (.bool true)) w)
theorem F47.eq (R : Ending → World → Prop) (w : World) (a0 a1 : Value) : F47 R w a0 a1 = shF Tryz.prog 47 [0,1,4,5,10,12,13,14,24] [a0, a1] R w := by kernel_rfl
theorem F47.calls {R : Ending → World → Prop} {w : World} {a0 a1 : Value} (h : F47 R w a0 a1) : Calls Tryz.prog 47 #[a0, a1] w R := shF_sound (F47.eq R w a0 a1 ▸ h)

/-- slices.EqualFunc[[]greenscreen/grammar.Item,[]greenscreen/grammar.Item,greenscreen/grammar.Item,greenscreen/grammar.Item] -/
def F48 (R : Ending → World → Prop) (w : World) (a0 a1 a2 : Value) : Prop :=
  opv ((Builtin.len_ #[38] 3 #[a0]).run Tryz.prog w) R fun t11 w =>
  opv ((Builtin.len_ #[38] 3 #[a1]).run Tryz.prog w) R fun t13 w =>
  opv ((binE false .neq 3 t11 t13).run Tryz.prog w) R fun t14 w =>
  cond t14 (R (.returned (.bool false)) w)
  (join (upd (upd (ini [a0, a1, a2]) 6 (.bool false)) 14 t14) (fun j1 =>
  opv ((Builtin.len_ #[38] 3 #[a0]).run Tryz.prog w) R fun t16 w =>
  loop (upd (upd (upd (upd (upd (ini [a0, a1, a2]) 6 (.bool false)) 14 t14) 15 a0) 16 t16) 17 (.int .i64 0)) w fun e2 g2 w j2 =>
  opv ((binOp .lss 3 (g2 17) t16).run Tryz.prog w) R fun t18 w =>
  cond t18 (opv ((Instr.indexAt 38 a0 (g2 17)).run Tryz.prog w) R fun t20 w =>
  opv ((Instr.loadAt 71 t20).run Tryz.prog w) R fun t21 w =>
  opv ((Instr.alloc 71 true (.tuple #[])).run Tryz.prog w) R fun t8 w =>
  opu ((Instr.storeAt 71 t8 t21).run Tryz.prog w) R fun _ w =>
  opv ((Instr.indexAt 38 a1 (g2 17)).run Tryz.prog w) R fun t24 w =>
  opv ((Instr.loadAt 71 t24).run Tryz.prog w) R fun t25 w =>
  opv ((Instr.alloc 71 true (.tuple #[])).run Tryz.prog w) R fun t9 w =>
  opu ((Instr.storeAt 71 t9 t25).run Tryz.prog w) R fun _ w =>
  opv ((Instr.loadAt 71 t8).run Tryz.prog w) R fun t27 w =>
  opv ((Instr.loadAt 71 t9).run Tryz.prog w) R fun t28 w =>
  callY Tryz.prog a2 #[t27, t28] w R fun t29 w =>
  opv ((Op.unary .not t29).run Tryz.prog w) R fun t30 w =>
  cond t30 (R (.returned (.bool false)) w)
  (opv ((binOp .add 3 (g2 17) (.int .i64 1)).run Tryz.prog w) R fun t31 w =>
  j2 (upd (upd (upd (upd (upd (upd (mix [18,8,7,9,30,6,17] g2 e2) 18 t18) 8 t8) 7 (g2 17)) 9 t9) 30 t30) 17 t31) w))
  (j1 (upd (mix [18,8,7,9,30,6,17] g2 e2) 18 t18) w)) fun e1 g1 w =>
  R (.returned (.bool true)) w)
theorem F48.eq (R : Ending → World → Prop) (w : World) (a0 a1 a2 : Value) : F48 R w a0 a1 a2 = shF Tryz.prog 48 [0,1,2,6,7,8,9,14,15,16,17,18,30] [a0, a1, a2] R w := by kernel_rfl
theorem F48.calls {R : Ending → World → Prop} {w : World} {a0 a1 a2 : Value} (h : F48 R w a0 a1 a2) : Calls Tryz.prog 48 #[a0, a1, a2] w R := shF_sound (F48.eq R w a0 a1 a2 ▸ h)

/-- (*greenscreen/grammar.reader).next -/
def F50 (R : Ending → World → Prop) (w : World) (a0 : Value) : Prop :=
  join (upd (ini [a0]) 2 (.int .u8 0)) (fun j1 =>
  nilck a0 w fun t5 w =>
  opv ((Instr.fieldAt 105 t5 0).run Tryz.prog w) R fun t6 w =>
  opv ((Instr.loadAt 43 t6).run Tryz.prog w) R fun t7 w =>
  opv ((Builtin.len_ #[43] 3 #[t7]).run Tryz.prog w) R fun t8 w =>
  opv ((binE true .eql 3 t8 (.int .i64 0)).run Tryz.prog w) R fun t9 w =>
  cond t9 (opv ((Instr.build 102 #[(0, (.int .i64 20))]).run Tryz.prog w) R fun t10 w =>
  opv ((Instr.makeInterface 102 t10).run Tryz.prog w) R fun t11 w =>
  opv ((Instr.panic t11).run Tryz.prog w) R fun _ w =>
  j1 (upd (upd (ini [a0]) 2 (.int .u8 0)) 9 t9) w)
  (j1 (upd (upd (ini [a0]) 2 (.int .u8 0)) 9 t9) w)) fun e1 g1 w =>
  nilck a0 w fun t13 w =>
  opv ((Instr.fieldAt 105 t13 0).run Tryz.prog w) R fun t14 w =>
  opv ((Instr.loadAt 43 t14).run Tryz.prog w) R fun t15 w =>
  opv ((Instr.indexAt 43 t15 (.int .i64 0)).run Tryz.prog w) R fun t16 w =>
  opv ((Instr.loadAt 5 t16).run Tryz.prog w) R fun t17 w =>
  nilck a0 w fun t20 w =>
  opv ((Instr.fieldAt 105 t20 0).run Tryz.prog w) R fun t21 w =>
  opv ((Instr.loadAt 43 t21).run Tryz.prog w) R fun t22 w =>
  opv ((Instr.sliceAt 43 t22 (some (.int .i64 1)) none none).run Tryz.prog w) R fun t23 w =>
  nilck a0 w fun t24 w =>
  opv ((Instr.fieldAt 105 t24 0).run Tryz.prog w) R fun t25 w =>
  opu ((Instr.storeAt 43 t25 t23).run Tryz.prog w) R fun _ w =>
  R (.returned t17) w
theorem F50.eq (R : Ending → World → Prop) (w : World) (a0 : Value) : F50 R w a0 = shF Tryz.prog 50 [0,2,3,9] [a0] R w := by kernel_rfl
theorem F50.calls {R : Ending → World → Prop} {w : World} {a0 : Value} (h : F50 R w a0) : Calls Tryz.prog 50 #[a0] w R := shF_sound (F50.eq R w a0 ▸ h)

/-- (*greenscreen/grammar.reader).place -/
def F51 (R : Ending → World → Prop) (w : World) (a0 : Value) : Prop :=
  callF Tryz.prog 50 #[a0] w R fun t5 w =>
  callF Tryz.prog 50 #[a0] w R fun t8 w =>
  callF Tryz.prog 72 #[t5, t8] w R fun t9 w =>
  R (.returned t9) w
theorem F51.eq (R : Ending → World → Prop) (w : World) (a0 : Value) : F51 R w a0 = shF Tryz.prog 51 [0,2,3] [a0] R w := by kernel_rfl
theorem F51.calls {R : Ending → World → Prop} {w : World} {a0 : Value} (h : F51 R w a0) : Calls Tryz.prog 51 #[a0] w R := shF_sound (F51.eq R w a0 ▸ h)

/-- (*greenscreen/grammar.reader).item -/
def F52 (R : Ending → World → Prop) (w : World) (a0 : Value) : Prop :=
  opv ((Instr.alloc 71 true (.tuple #[])).run Tryz.prog w) R fun t2 w =>
  join (upd (upd (ini [a0]) 2 t2) 3 (.int .i64 (-1))) (fun j1 =>
  nilck a0 w fun t5 w =>
  opv ((Instr.fieldAt 105 t5 0).run Tryz.prog w) R fun t6 w =>
  opv ((Instr.loadAt 43 t6).run Tryz.prog w) R fun t7 w =>
  opv ((Instr.indexAt 43 t7 (.int .i64 0)).run Tryz.prog w) R fun t8 w =>
  opv ((Instr.loadAt 5 t8).run Tryz.prog w) R fun t9 w =>
  opv ((binE true .eql 5 t9 (.int .u8 17)).run Tryz.prog w) R fun t10 w =>
  cond t10 (callF Tryz.prog 50 #[a0] w R fun t12 w =>
  callF Tryz.prog 51 #[a0] w R fun t14 w =>
  j1 (upd (upd (upd (upd (ini [a0]) 2 t2) 3 (.int .i64 (-1))) 10 t10) 3 t14) w)
  (j1 (upd (upd (upd (ini [a0]) 2 t2) 3 (.int .i64 (-1))) 10 t10) w)) fun e1 g1 w =>
  callF Tryz.prog 73 #[a0] w R fun t17 w =>
  opv ((Instr.build 71 #[(0, (g1 3)), (1, t17)]).run Tryz.prog w) R fun t18 w =>
  opu ((Instr.storeAt 71 t2 t18).run Tryz.prog w) R fun _ w =>
  ldv ((Instr.loadAt 71 t2).run Tryz.prog w) w fun r0 =>
  R (.returned r0) w
theorem F52.eq (R : Ending → World → Prop) (w : World) (a0 : Value) : F52 R w a0 = shF Tryz.prog 52 [0,2,3,10] [a0] R w := by kernel_rfl
theorem F52.calls {R : Ending → World → Prop} {w : World} {a0 : Value} (h : F52 R w a0) : Calls Tryz.prog 52 #[a0] w R := shF_sound (F52.eq R w a0 ▸ h)

/-- greenscreen/keyboard.plain -/
def F53 (R : Ending → World → Prop) (w : World) (a0 : Value) : Prop :=
  opv ((binE true .eql 5 a0 (.int .u8 125)).run Tryz.prog w) R fun t5 w =>
  cond t5 (R (.returned (.string ⟨#[69, 78, 84, 69, 82]⟩)) w)
  (opv ((binE true .eql 5 a0 (.int .u8 109)).run Tryz.prog w) R fun t7 w =>
  cond t7 (R (.returned (.string ⟨#[67, 76, 69, 65, 82]⟩)) w)
  (opv ((binE true .eql 5 a0 (.int .u8 108)).run Tryz.prog w) R fun t9 w =>
  cond t9 (R (.returned (.string ⟨#[80, 65, 49]⟩)) w)
  (opv ((binE true .eql 5 a0 (.int .u8 110)).run Tryz.prog w) R fun t11 w =>
  cond t11 (R (.returned (.string ⟨#[80, 65, 50]⟩)) w)
  (opv ((binE true .eql 5 a0 (.int .u8 107)).run Tryz.prog w) R fun t13 w =>
  cond t13 (R (.returned (.string ⟨#[80, 65, 51]⟩)) w)
  (R (.returned (.string ⟨#[]⟩)) w)))))
theorem F53.eq (R : Ending → World → Prop) (w : World) (a0 : Value) : F53 R w a0 = shF Tryz.prog 53 [0,2,3,4,6,8,10,12] [a0] R w := by kernel_rfl
theorem F53.calls {R : Ending → World → Prop} {w : World} {a0 : Value} (h : F53 R w a0) : Calls Tryz.prog 53 #[a0] w R := shF_sound (F53.eq R w a0 ▸ h)

/-- greenscreen/field.Formatted -/
def F54 (R : Ending → World → Prop) (w : World) (a0 : Value) : Prop :=
  callF Tryz.prog 74 #[a0, (.int .i64 0), (.int .i64 1)] w R fun t4 w =>
  opv ((binOp .geq 3 t4 (.int .i64 0)).run Tryz.prog w) R fun t5 w =>
  R (.returned t5) w
theorem F54.eq (R : Ending → World → Prop) (w : World) (a0 : Value) : F54 R w a0 = shF Tryz.prog 54 [0,2] [a0] R w := by kernel_rfl
theorem F54.calls {R : Ending → World → Prop} {w : World} {a0 : Value} (h : F54 R w a0) : Calls Tryz.prog 54 #[a0] w R := shF_sound (F54.eq R w a0 ▸ h)

/-- greenscreen/reply.fields -/
def F55 (R : Ending → World → Prop) (w : World) (a0 : Value) : Prop :=
  opv ((Instr.box 30 a0).run Tryz.prog w) (noP R) fun t1 w =>
  opv ((Instr.alloc 43 true (.tuple #[])).run Tryz.prog w) (noP R) fun t3 w =>
  join (upd (upd (upd (ini [a0]) 1 t1) 2 (.slice none 0 0)) 3 t3) (fun j1 =>
  opv ((Instr.loadAt 30 t1).run Tryz.prog w) (noP R) fun t7 w =>
  callF Tryz.prog 75 #[t7] w (noP R) fun t8 w =>
  rangeF Tryz.prog t8 1 w (fun l2 xs2 w mid2 fin2 =>
  opv ((Instr.alloc 128 true (.tuple #[])).run Tryz.prog w) noR fun t4 w =>
  opu ((Instr.storeAt 128 t4 (xs2.getD 0 undef)).run Tryz.prog w) noR fun _ w =>
  mid2 (fun w => opv ((Instr.fieldAt 128 t4 2).run Tryz.prog w) noR fun t10 w =>
  opv ((Instr.loadAt 5 t10).run Tryz.prog w) noR fun t11 w =>
  callF Tryz.prog 76 #[t11] w noR fun t12 w =>
  opv ((Op.unary .not t12).run Tryz.prog w) noR fun t13 w =>
  cond t13 (fin2 .normal w)
  (drawn w fun T w =>
  qop T w (fun w K => opv ((Instr.loadAt 43 t3).run Tryz.prog w) noR K) fun t14 =>
  qop T w (fun w K => opv ((Instr.loadAt 30 t1).run Tryz.prog w) noR K) fun t17 =>
  qop T w (fun w K => opv ((Instr.loadAt 30 t1).run Tryz.prog w) noR K) fun t18 =>
  qop T w (fun w K => opv ((Instr.fieldAt 128 t4 0).run Tryz.prog w) noR K) fun t20 =>
  qop T w (fun w K => opv ((Instr.loadAt 3 t20).run Tryz.prog w) noR K) fun t21 =>
  ext w fun w =>
  lop T w (fun w K => opv ((Instr.buildSlice 43 1 #[(0, (.int .u8 17))]).run Tryz.prog w) noR K) fun t15 w =>
  ext w fun w =>
  lop T w (fun w K => opv ((Builtin.append_ #[43, 43] 43 #[t14, t15]).run Tryz.prog w) noR K) fun t16 w =>
  qop T w (fun w K => callF Tryz.prog 78 #[t18] w noR K) fun t19 =>
  qop T w (fun w K => callF Tryz.prog 77 #[t19, t21, (.int .i64 1)] w noR K) fun t22 =>
  ext w fun w =>
  lop T w (fun w K => callF Tryz.prog 32 #[t17, t22] w noR K) fun t23 w =>
  ext w fun w =>
  lop T w (fun w K => opv ((Builtin.append_ #[43, 43] 43 #[t16, t23]).run Tryz.prog w) noR K) fun t24 w =>
  ext w fun w =>
  opu ((Instr.storeAt 43 t3 t24).run Tryz.prog w) noR fun _ w =>
  ext w fun w =>
  opv ((Instr.loadAt 30 t1).run Tryz.prog w) noR fun t25 w =>
  opv ((Instr.loadAt 128 t4).run Tryz.prog w) noR fun t26 w =>
  callF Tryz.prog 79 #[t25, t26] w noR fun t27 w =>
  rangeN Tryz.prog t27 1 l2 w (fun l3 xs3 w mid3 fin3 =>
  mid3 (fun w => opv ((Instr.loadAt 30 t1).run Tryz.prog w) noR fun t29 w =>
  callF Tryz.prog 35 #[t29, (xs3.getD 0 undef)] w noR fun t31 w =>
  opv ((Instr.alloc 35 true (.tuple #[])).run Tryz.prog w) noR fun t6 w =>
  opu ((Instr.storeAt 35 t6 t31).run Tryz.prog w) noR fun _ w =>
  opv ((Instr.loadAt 35 t6).run Tryz.prog w) noR fun t32 w =>
  callF Tryz.prog 80 #[t32] w noR fun t33 w =>
  opv ((Op.unary .not t33).run Tryz.prog w) noR fun t34 w =>
  cond t34 (drawn w fun T w =>
  qop T w (fun w K => opv ((Instr.loadAt 43 t3).run Tryz.prog w) noR K) fun t35 =>
  qop T w (fun w K => opv ((Instr.loadAt 35 t6).run Tryz.prog w) noR K) fun t36 =>
  ext w fun w =>
  lop T w (fun w K => callF Tryz.prog 37 #[t36] w noR K) fun t37 w =>
  ext w fun w =>
  lop T w (fun w K => opv ((Builtin.append_ #[43, 43] 43 #[t35, t37]).run Tryz.prog w) noR K) fun t38 w =>
  ext w fun w =>
  opu ((Instr.storeAt 43 t3 t38).run Tryz.prog w) noR fun _ w =>
  ext w fun w =>
  fin3 .normal w)
  (fin3 .normal w)) w)
  (fun w => fin2 .normal w)
  [])) w)
  (fun D w => j1 (upd (upd (upd (upd (upd (ini [a0]) 1 t1) 2 (.slice none 0 0)) 3 t3) 8 t8) 1000000 (mkV D undef)) w)
  []) fun e1 g1 w =>
  opv ((Instr.loadAt 43 t3).run Tryz.prog w) (noP R) fun t39 w =>
  leaveM (mkD (g1 1000000)) w fun w => R (.returned t39) w
theorem F55.eq (R : Ending → World → Prop) (w : World) (a0 : Value) : F55 R w a0 = shF Tryz.prog 55 [0,1,2,3,4,5,6,8,9,13,27,28,34] [a0] R w := by kernel_rfl
theorem F55.calls {R : Ending → World → Prop} {w : World} {a0 : Value} (h : F55 R w a0) : Calls Tryz.prog 55 #[a0] w R := shF_sound (F55.eq R w a0 ▸ h)

/-- greenscreen/reply.whole -/
def F56 (R : Ending → World → Prop) (w : World) (a0 : Value) : Prop :=
  join (upd (upd (ini [a0]) 2 (.slice none 0 0)) 3 (.slice none 0 0)) (fun j1 =>
  callF Tryz.prog 34 #[a0] w R fun t7 w =>
  loop (upd (upd (upd (upd (ini [a0]) 2 (.slice none 0 0)) 3 (.slice none 0 0)) 7 t7) 8 (.int .i64 0)) w fun e2 g2 w j2 =>
  opv ((binOp .lss 3 (g2 8) t7).run Tryz.prog w) R fun t9 w =>
  cond t9 (join (upd (mix [9,4,5,16,3,8] g2 e2) 9 t9) (fun j3 =>
  callF Tryz.prog 35 #[a0, (g2 8)] w R fun t13 w =>
  opv ((Instr.alloc 35 true (.tuple #[])).run Tryz.prog w) R fun t5 w =>
  opu ((Instr.storeAt 35 t5 t13).run Tryz.prog w) R fun _ w =>
  opv ((Instr.loadAt 35 t5).run Tryz.prog w) R fun t14 w =>
  callF Tryz.prog 80 #[t14] w R fun t15 w =>
  opv ((Op.unary .not t15).run Tryz.prog w) R fun t16 w =>
  cond t16 (opv ((Instr.loadAt 35 t5).run Tryz.prog w) R fun t18 w =>
  callF Tryz.prog 37 #[t18] w R fun t19 w =>
  opv ((Builtin.append_ #[43, 43] 43 #[(g2 3), t19]).run Tryz.prog w) R fun t20 w =>
  j3 (upd (upd (upd (upd (upd (mix [9,4,5,16,3,8] g2 e2) 9 t9) 4 (g2 8)) 5 t5) 16 t16) 3 t20) w)
  (j3 (upd (upd (upd (upd (mix [9,4,5,16,3,8] g2 e2) 9 t9) 4 (g2 8)) 5 t5) 16 t16) w)) fun e3 g3 w =>
  opv ((binOp .add 3 (g2 8) (.int .i64 1)).run Tryz.prog w) R fun t21 w =>
  j2 (upd (mix [4,5,16,3] g3 e3) 8 t21) w)
  (j1 (upd (mix [9,4,5,16,3,8] g2 e2) 9 t9) w)) fun e1 g1 w =>
  R (.returned (g1 3)) w
theorem F56.eq (R : Ending → World → Prop) (w : World) (a0 : Value) : F56 R w a0 = shF Tryz.prog 56 [0,2,3,4,5,7,8,9,16] [a0] R w := by kernel_rfl
theorem F56.calls {R : Ending → World → Prop} {w : World} {a0 : Value} (h : F56 R w a0) : Calls Tryz.prog 56 #[a0] w R := shF_sound (F56.eq R w a0 ▸ h)

/-- greenscreen/greenscreenref15.Starts -/
def F57 (R : Ending → World → Prop) (w : World) (a0 : Value) : Prop :=
  opv ((Instr.box 27 a0).run Tryz.prog w) R fun t1 w =>
  opv ((Instr.buildSlice 62 0 #[]).run Tryz.prog w) R fun t5 w =>
  join (upd (upd (upd (ini [a0]) 1 t1) 2 (.slice none 0 0)) 3 t5) (fun j1 =>
  loop (upd (upd (upd (upd (ini [a0]) 1 t1) 2 (.slice none 0 0)) 3 t5) 4 (.int .i64 0)) w fun e2 g2 w j2 =>
  opv ((Instr.fieldAt 27 t1 1).run Tryz.prog w) R fun t7 w =>
  opv ((Instr.loadAt 24 t7).run Tryz.prog w) R fun t8 w =>
  opv ((Builtin.len_ #[24] 3 #[t8]).run Tryz.prog w) R fun t9 w =>
  opv ((binOp .lss 3 (g2 4) t9).run Tryz.prog w) R fun t10 w =>
  cond t10 (join (upd (mix [10,18,3,4] g2 e2) 10 t10) (fun j3 =>
  opv ((Instr.fieldAt 27 t1 1).run Tryz.prog w) R fun t13 w =>
  opv ((Instr.loadAt 24 t13).run Tryz.prog w) R fun t14 w =>
  opv ((Instr.indexAt 24 t14 (g2 4)).run Tryz.prog w) R fun t16 w =>
  opv ((Instr.fieldAt 35 t16 2).run Tryz.prog w) R fun t17 w =>
  opv ((Instr.loadAt 4 t17).run Tryz.prog w) R fun t18 w =>
  cond t18 (opv ((Instr.buildSlice 62 1 #[(0, (g2 4))]).run Tryz.prog w) R fun t21 w =>
  opv ((Builtin.append_ #[62, 62] 62 #[(g2 3), t21]).run Tryz.prog w) R fun t22 w =>
  j3 (upd (upd (upd (mix [10,18,3,4] g2 e2) 10 t10) 18 t18) 3 t22) w)
  (j3 (upd (upd (mix [10,18,3,4] g2 e2) 10 t10) 18 t18) w)) fun e3 g3 w =>
  opv ((binOp .add 3 (g2 4) (.int .i64 1)).run Tryz.prog w) R fun t12 w =>
  j2 (upd (mix [18,3] g3 e3) 4 t12) w)
  (j1 (upd (mix [10,18,3,4] g2 e2) 10 t10) w)) fun e1 g1 w =>
  R (.returned (g1 3)) w
theorem F57.eq (R : Ending → World → Prop) (w : World) (a0 : Value) : F57 R w a0 = shF Tryz.prog 57 [0,1,2,3,4,10,18] [a0] R w := by kernel_rfl
theorem F57.calls {R : Ending → World → Prop} {w : World} {a0 : Value} (h : F57 R w a0) : Calls Tryz.prog 57 #[a0] w R := shF_sound (F57.eq R w a0 ▸ h)

/-- greenscreen/greenscreenref14.Has -/
def F58 (R : Ending → World → Prop) (w : World) (a0 a1 : Value) : Prop :=
  opv ((Instr.box 27 a0).run Tryz.prog w) R fun t2 w =>
  opv ((binOp .geq 3 a1 (.int .i64 0)).run Tryz.prog w) R fun t6 w =>
  gd t6 true (fun K => K a1 w) w fun t8 w =>
  gd t6 true (fun K => opv ((Instr.fieldAt 27 t2 1).run Tryz.prog w) R K) w fun t9 w =>
  gd t6 true (fun K => opv ((Instr.loadAt 24 t9).run Tryz.prog w) R K) w fun t10 w =>
  gd t6 true (fun K => opv ((Builtin.len_ #[24] 3 #[t10]).run Tryz.prog w) R K) w fun t11 w =>
  gd t6 true (fun K => opv ((binOp .lss 3 t8 t11).run Tryz.prog w) R K) w fun t12 w =>
  pick t6 t12 (.bool false) w fun t13 w =>
  R (.returned t13) w
theorem F58.eq (R : Ending → World → Prop) (w : World) (a0 a1 : Value) : F58 R w a0 a1 = shF Tryz.prog 58 [0,1,2,4] [a0, a1] R w := by kernel_rfl
theorem F58.calls {R : Ending → World → Prop} {w : World} {a0 a1 : Value} (h : F58 R w a0 a1) : Calls Tryz.prog 58 #[a0, a1] w R := shF_sound (F58.eq R w a0 a1 ▸ h)

/-- greenscreen/greenscreenref01.Held -/
def F59 (R : Ending → World → Prop) (w : World) (a0 a1 a2 : Value) : Prop :=
  opv ((binOp .lss 3 a0 a1).run Tryz.prog w) R fun t9 w =>
  cond t9 (R (.returned a1) w)
  (opv ((binOp .gtr 3 a0 a2).run Tryz.prog w) R fun t13 w =>
  cond t13 (R (.returned a2) w)
  (R (.returned a0) w))
theorem F59.eq (R : Ending → World → Prop) (w : World) (a0 a1 a2 : Value) : F59 R w a0 a1 a2 = shF Tryz.prog 59 [0,1,2,6,9,13] [a0, a1, a2] R w := by kernel_rfl
theorem F59.calls {R : Ending → World → Prop} {w : World} {a0 a1 a2 : Value} (h : F59 R w a0 a1 a2) : Calls Tryz.prog 59 #[a0, a1, a2] w R := shF_sound (F59.eq R w a0 a1 a2 ▸ h)

/-- (*greenscreen/grammar.reader).cell -/
def F61 (R : Ending → World → Prop) (w : World) (a0 : Value) : Prop :=
  opv ((Instr.alloc 35 true (.tuple #[])).run Tryz.prog w) R fun t2 w =>
  callF Tryz.prog 50 #[a0] w R fun t5 w =>
  callF Tryz.prog 63 #[t5] w R fun t7 w =>
  cond t7 (opv ((Instr.build 35 #[(0, t5)]).run Tryz.prog w) R fun t9 w =>
  opu ((Instr.storeAt 35 t2 t9).run Tryz.prog w) R fun _ w =>
  ldv ((Instr.loadAt 35 t2).run Tryz.prog w) w fun r0 =>
  R (.returned r0) w)
  (join (upd (upd (upd (ini [a0]) 2 t2) 3 t5) 7 t7) (fun j1 =>
  opv ((binE true .neq 5 t5 (.int .u8 8)).run Tryz.prog w) R fun t11 w =>
  cond t11 (opv ((Instr.build 102 #[(0, (.int .i64 21))]).run Tryz.prog w) R fun t12 w =>
  opv ((Instr.makeInterface 102 t12).run Tryz.prog w) R fun t13 w =>
  opv ((Instr.panic t13).run Tryz.prog w) R fun _ w =>
  j1 (upd (upd (upd (upd (ini [a0]) 2 t2) 3 t5) 7 t7) 11 t11) w)
  (j1 (upd (upd (upd (upd (ini [a0]) 2 t2) 3 t5) 7 t7) 11 t11) w)) fun e1 g1 w =>
  join (mix [11] g1 e1) (fun j2 =>
  callF Tryz.prog 50 #[a0] w R fun t15 w =>
  opv ((binOp .lss 5 t15 (.int .u8 64)).run Tryz.prog w) R fun t17 w =>
  cond t17 (opv ((Instr.build 102 #[(0, (.int .i64 21))]).run Tryz.prog w) R fun t18 w =>
  opv ((Instr.makeInterface 102 t18).run Tryz.prog w) R fun t19 w =>
  opv ((Instr.panic t19).run Tryz.prog w) R fun _ w =>
  j2 (upd (upd (mix [11] g1 e1) 3 t15) 17 t17) w)
  (j2 (upd (upd (mix [11] g1 e1) 3 t15) 17 t17) w)) fun e2 g2 w =>
  opv ((Instr.build 35 #[(0, (g2 3)), (1, (.bool true))]).run Tryz.prog w) R fun t21 w =>
  opu ((Instr.storeAt 35 t2 t21).run Tryz.prog w) R fun _ w =>
  ldv ((Instr.loadAt 35 t2).run Tryz.prog w) w fun r0 =>
  R (.returned r0) w)
theorem F61.eq (R : Ending → World → Prop) (w : World) (a0 : Value) : F61 R w a0 = shF Tryz.prog 61 [0,2,3,7,11,17] [a0] R w := by kernel_rfl
theorem F61.calls {R : Ending → World → Prop} {w : World} {a0 : Value} (h : F61 R w a0) : Calls Tryz.prog 61 #[a0] w R := shF_sound (F61.eq R w a0 ▸ h)

/-- greenscreen/addr.Digit -/
def F62 (R : Ending → World → Prop) (w : World) (a0 : Value) : Prop :=
  opv ((binOp .and 3 a0 (.int .i64 63)).run Tryz.prog w) R fun t5 w =>
  opv ((binOp .rem 3 t5 (.int .i64 16)).run Tryz.prog w) R fun t7 w =>
  opv ((binOp .geq 3 t7 (.int .i64 1)).run Tryz.prog w) R fun t9 w =>
  gd t9 true (fun K => K t7 w) w fun t11 w =>
  gd t9 true (fun K => opv ((binOp .leq 3 t11 (.int .i64 9)).run Tryz.prog w) R K) w fun t12 w =>
  pick t9 t12 (.bool false) w fun t13 w =>
  gd t13 true (fun K => K t5 w) w fun t15 w =>
  gd t13 true (fun K => opv ((binE true .neq 3 t15 (.int .i64 33)).run Tryz.prog w) R K) w fun t16 w =>
  pick t13 t16 (.bool false) w fun t17 w =>
  gd t17 false (fun K => K t5 w) w fun t19 w =>
  gd t17 false (fun K => opv ((binE true .eql 3 t19 (.int .i64 48)).run Tryz.prog w) R K) w fun t20 w =>
  pick t17 (.bool true) t20 w fun t21 w =>
  cond t21 (opv ((binOp .or 3 (.int .i64 192) t5).run Tryz.prog w) R fun t23 w =>
  opv ((convert 3 5 t23).run Tryz.prog w) R fun t24 w =>
  R (.returned t24) w)
  (opv ((binOp .or 3 (.int .i64 64) t5).run Tryz.prog w) R fun t26 w =>
  opv ((convert 3 5 t26).run Tryz.prog w) R fun t27 w =>
  R (.returned t27) w)
theorem F62.eq (R : Ending → World → Prop) (w : World) (a0 : Value) : F62 R w a0 = shF Tryz.prog 62 [0,2,3,21] [a0] R w := by kernel_rfl
theorem F62.calls {R : Ending → World → Prop} {w : World} {a0 : Value} (h : F62 R w a0) : Calls Tryz.prog 62 #[a0] w R := shF_sound (F62.eq R w a0 ▸ h)

/-- greenscreen/order.Plain -/
def F63 (R : Ending → World → Prop) (w : World) (a0 : Value) : Prop :=
  join (upd (upd (ini [a0]) 2 (.bool false)) 3 a0) (fun j1 =>
  opv ((binE true .eql 5 a0 (.int .u8 0)).run Tryz.prog w) R fun t5 w =>
  cond t5 (j1 (upd (upd (upd (ini [a0]) 2 (.bool false)) 3 a0) 4 t5) w)
  (opv ((binE true .eql 5 a0 (.int .u8 12)).run Tryz.prog w) R fun t6 w =>
  cond t6 (j1 (upd (upd (upd (upd (ini [a0]) 2 (.bool false)) 3 a0) 4 t5) 4 t6) w)
  (opv ((binE true .eql 5 a0 (.int .u8 13)).run Tryz.prog w) R fun t7 w =>
  cond t7 (j1 (upd (upd (upd (upd (upd (ini [a0]) 2 (.bool false)) 3 a0) 4 t5) 4 t6) 4 t7) w)
  (opv ((binE true .eql 5 a0 (.int .u8 21)).run Tryz.prog w) R fun t8 w =>
  cond t8 (j1 (upd (upd (upd (upd (upd (upd (ini [a0]) 2 (.bool false)) 3 a0) 4 t5) 4 t6) 4 t7) 4 t8) w)
  (opv ((binE true .eql 5 a0 (.int .u8 25)).run Tryz.prog w) R fun t9 w =>
  cond t9 (j1 (upd (upd (upd (upd (upd (upd (upd (ini [a0]) 2 (.bool false)) 3 a0) 4 t5) 4 t6) 4 t7) 4 t8) 4 t9) w)
  (opv ((binE true .eql 5 a0 (.int .u8 28)).run Tryz.prog w) R fun t10 w =>
  cond t10 (j1 (upd (upd (upd (upd (upd (upd (upd (upd (ini [a0]) 2 (.bool false)) 3 a0) 4 t5) 4 t6) 4 t7) 4 t8) 4 t9) 4 t10) w)
  (opv ((binE true .eql 5 a0 (.int .u8 30)).run Tryz.prog w) R fun t11 w =>
  cond t11 (j1 (upd (upd (upd (upd (upd (upd (upd (upd (upd (ini [a0]) 2 (.bool false)) 3 a0) 4 t5) 4 t6) 4 t7) 4 t8) 4 t9) 4 t10) 4 t11) w)
  (opv ((binE true .eql 5 a0 (.int .u8 63)).run Tryz.prog w) R fun t12 w =>
  j1 (upd (upd (upd (upd (upd (upd (upd (upd (upd (upd (ini [a0]) 2 (.bool false)) 3 a0) 4 t5) 4 t6) 4 t7) 4 t8) 4 t9) 4 t10) 4 t11) 4 t12) w)))))))) fun e1 g1 w =>
  cond (g1 4) (R (.returned (.bool true)) w)
  (opv ((binOp .geq 5 a0 (.int .u8 64)).run Tryz.prog w) R fun t14 w =>
  R (.returned t14) w)
theorem F63.eq (R : Ending → World → Prop) (w : World) (a0 : Value) : F63 R w a0 = shF Tryz.prog 63 [0,2,3,4] [a0] R w := by kernel_rfl
theorem F63.calls {R : Ending → World → Prop} {w : World} {a0 : Value} (h : F63 R w a0) : Calls Tryz.prog 63 #[a0] w R := shF_sound (F63.eq R w a0 ▸ h)

/-- greenscreen/greenscreenref12.Plain -/
def F64 (R : Ending → World → Prop) (w : World) (a0 : Value) : Prop :=
  opv ((binOp .geq 5 a0 (.int .u8 64)).run Tryz.prog w) R fun t6 w =>
  cond t6 (R (.returned (.bool true)) w)
  (opv ((Instr.buildSlice 43 8 #[(0, (.int .u8 0)), (1, (.int .u8 12)), (2, (.int .u8 13)), (3, (.int .u8 21)), (4, (.int .u8 25)), (5, (.int .u8 28)), (6, (.int .u8 30)), (7, (.int .u8 63))]).run Tryz.prog w) R fun t7 w =>
  join (upd (upd (upd (ini [a0]) 2 (.bool false)) 6 t6) 3 t7) (fun j1 =>
  loop (upd (upd (upd (upd (ini [a0]) 2 (.bool false)) 6 t6) 3 t7) 4 (.int .i64 0)) w fun e2 g2 w j2 =>
  opv ((Builtin.len_ #[43] 3 #[t7]).run Tryz.prog w) R fun t10 w =>
  opv ((binOp .lss 3 (g2 4) t10).run Tryz.prog w) R fun t11 w =>
  cond t11 (opv ((Instr.indexAt 43 t7 (g2 4)).run Tryz.prog w) R fun t16 w =>
  opv ((Instr.loadAt 5 t16).run Tryz.prog w) R fun t17 w =>
  opv ((binE false .eql 5 t17 a0).run Tryz.prog w) R fun t19 w =>
  cond t19 (R (.returned (.bool true)) w)
  (opv ((binOp .add 3 (g2 4) (.int .i64 1)).run Tryz.prog w) R fun t13 w =>
  j2 (upd (upd (upd (mix [11,19,2,4] g2 e2) 11 t11) 19 t19) 4 t13) w))
  (j1 (upd (mix [11,19,2,4] g2 e2) 11 t11) w)) fun e1 g1 w =>
  R (.returned (.bool false)) w)
theorem F64.eq (R : Ending → World → Prop) (w : World) (a0 : Value) : F64 R w a0 = shF Tryz.prog 64 [0,2,3,4,6,11,19] [a0] R w := by kernel_rfl
theorem F64.calls {R : Ending → World → Prop} {w : World} {a0 : Value} (h : F64 R w a0) : Calls Tryz.prog 64 #[a0] w R := shF_sound (F64.eq R w a0 ▸ h)

/-- greenscreen/grammar.may -/
def F65 (R : Ending → World → Prop) (w : World) (a0 : Value) : Prop :=
  opv ((Instr.box 35 a0).run Tryz.prog w) R fun t1 w =>
  opv ((Instr.fieldAt 35 t1 0).run Tryz.prog w) R fun t4 w =>
  opv ((Instr.loadAt 5 t4).run Tryz.prog w) R fun t5 w =>
  opv ((Instr.fieldAt 35 t1 1).run Tryz.prog w) R fun t6 w =>
  opv ((Instr.loadAt 4 t6).run Tryz.prog w) R fun t7 w =>
  opv ((Instr.build 35 #[(0, t5), (1, t7)]).run Tryz.prog w) R fun t8 w =>
  opv ((Instr.alloc 35 true (.tuple #[])).run Tryz.prog w) R fun t3 w =>
  opu ((Instr.storeAt 35 t3 t8).run Tryz.prog w) R fun _ w =>
  opv ((Instr.loadAt 35 t1).run Tryz.prog w) R fun t9 w =>
  opv ((Instr.loadAt 35 t3).run Tryz.prog w) R fun t10 w =>
  opv ((binE false .eql 35 t9 t10).run Tryz.prog w) R fun t11 w =>
  gd t11 true (fun K => opv ((Instr.fieldAt 35 t1 1).run Tryz.prog w) R K) w fun t13 w =>
  gd t11 true (fun K => opv ((Instr.loadAt 4 t13).run Tryz.prog w) R K) w fun t14 w =>
  gd t11 true (fun K => K t14 w) w fun t15 w =>
  gd t15 true (fun K => opv ((Instr.fieldAt 35 t1 0).run Tryz.prog w) R K) w fun t16 w =>
  gd t15 true (fun K => opv ((Instr.loadAt 5 t16).run Tryz.prog w) R K) w fun t17 w =>
  gd t15 true (fun K => opv ((binOp .geq 5 t17 (.int .u8 64)).run Tryz.prog w) R K) w fun t18 w =>
  gd t11 true (fun K => pick t15 t18 (.bool false) w K) w fun t19 w =>
  gd t11 true (fun K => K t19 w) w fun t20 w =>
  gd t20 false (fun K => opv ((Instr.fieldAt 35 t1 1).run Tryz.prog w) R K) w fun t21 w =>
  gd t20 false (fun K => opv ((Instr.loadAt 4 t21).run Tryz.prog w) R K) w fun t22 w =>
  gd t20 false (fun K => opv ((Op.unary .not t22).run Tryz.prog w) R K) w fun t23 w =>
  gd t20 false (fun K => K t23 w) w fun t24 w =>
  gd t24 true (fun K => opv ((Instr.fieldAt 35 t1 0).run Tryz.prog w) R K) w fun t25 w =>
  gd t24 true (fun K => opv ((Instr.loadAt 5 t25).run Tryz.prog w) R K) w fun t26 w =>
  gd t24 true (fun K => callF Tryz.prog 63 #[t26] w R K) w fun t27 w =>
  gd t20 false (fun K => pick t24 t27 (.bool false) w K) w fun t28 w =>
  gd t11 true (fun K => pick t20 (.bool true) t28 w K) w fun t29 w =>
  pick t11 t29 (.bool false) w fun t30 w =>
  R (.returned t30) w
theorem F65.eq (R : Ending → World → Prop) (w : World) (a0 : Value) : F65 R w a0 = shF Tryz.prog 65 [0,1,2,3] [a0] R w := by kernel_rfl
theorem F65.calls {R : Ending → World → Prop} {w : World} {a0 : Value} (h : F65 R w a0) : Calls Tryz.prog 65 #[a0] w R := shF_sound (F65.eq R w a0 ▸ h)

/-- greenscreen/keyboard.Name -/
def F66 (R : Ending → World → Prop) (w : World) (a0 : Value) : Prop :=
  opv ((Instr.box 118 a0).run Tryz.prog w) R fun t1 w =>
  opv ((Instr.fieldAt 118 t1 0).run Tryz.prog w) R fun t4 w =>
  opv ((Instr.loadAt 3 t4).run Tryz.prog w) R fun t5 w =>
  opv ((binE true .eql 3 t5 (.int .i64 17)).run Tryz.prog w) R fun t6 w =>
  cond t6 (opv ((Instr.fieldAt 118 t1 1).run Tryz.prog w) R fun t7 w =>
  opv ((Instr.loadAt 5 t7).run Tryz.prog w) R fun t8 w =>
  callF Tryz.prog 81 #[t8] w R fun t9 w =>
  R (.returned t9) w)
  (opv ((Instr.fieldAt 118 t1 0).run Tryz.prog w) R fun t11 w =>
  opv ((Instr.loadAt 3 t11).run Tryz.prog w) R fun t12 w =>
  opv ((binOp .leq 3 t12 (.int .i64 1)).run Tryz.prog w) R fun t13 w =>
  gd t13 false (fun K => opv ((Instr.fieldAt 118 t1 0).run Tryz.prog w) R K) w fun t15 w =>
  gd t13 false (fun K => opv ((Instr.loadAt 3 t15).run Tryz.prog w) R K) w fun t16 w =>
  gd t13 false (fun K => opv ((binOp .gtr 3 t16 (.int .i64 17)).run Tryz.prog w) R K) w fun t17 w =>
  pick t13 (.bool true) t17 w fun t18 w =>
  cond t18 (R (.returned (.string ⟨#[]⟩)) w)
  (opv ((Instr.fieldAt 118 t1 0).run Tryz.prog w) R fun t19 w =>
  opv ((Instr.loadAt 3 t19).run Tryz.prog w) R fun t20 w =>
  opv ((Instr.indexAt 134 (.pointer (some ⟨0, 0, none⟩)) t20).run Tryz.prog w) R fun t21 w =>
  opv ((Instr.loadAt 9 t21).run Tryz.prog w) R fun t22 w =>
  R (.returned t22) w))
theorem F66.eq (R : Ending → World → Prop) (w : World) (a0 : Value) : F66 R w a0 = shF Tryz.prog 66 [0,1,2,3,10] [a0] R w := by kernel_rfl
theorem F66.calls {R : Ending → World → Prop} {w : World} {a0 : Value} (h : F66 R w a0) : Calls Tryz.prog 66 #[a0] w R := shF_sound (F66.eq R w a0 ▸ h)

/-- internal/strconv.Itoa -/
def F68 (R : Ending → World → Prop) (w : World) (a0 : Value) : Prop :=
  callF Tryz.prog 83 #[a0, (.int .i64 10)] w R fun t4 w =>
  R (.returned t4) w
theorem F68.eq (R : Ending → World → Prop) (w : World) (a0 : Value) : F68 R w a0 = shF Tryz.prog 68 [0,2] [a0] R w := by kernel_rfl
theorem F68.calls {R : Ending → World → Prop} {w : World} {a0 : Value} (h : F68 R w a0) : Calls Tryz.prog 68 #[a0] w R := shF_sound (F68.eq R w a0 ▸ h)

/-- greenscreen/code.Graphic -/
def F69 (R : Ending → World → Prop) (w : World) (a0 : Value) : Prop :=
  opv ((binOp .geq 5 a0 (.int .u8 64)).run Tryz.prog w) R fun t4 w =>
  gd t4 true (fun K => K a0 w) w fun t6 w =>
  gd t4 true (fun K => opv ((binOp .leq 5 t6 (.int .u8 254)).run Tryz.prog w) R K) w fun t7 w =>
  pick t4 t7 (.bool false) w fun t8 w =>
  R (.returned t8) w
theorem F69.eq (R : Ending → World → Prop) (w : World) (a0 : Value) : F69 R w a0 = shF Tryz.prog 69 [0,2] [a0] R w := by kernel_rfl
theorem F69.calls {R : Ending → World → Prop} {w : World} {a0 : Value} (h : F69 R w a0) : Calls Tryz.prog 69 #[a0] w R := shF_sound (F69.eq R w a0 ▸ h)

/-- greenscreen/code.Special -/
def F70 (R : Ending → World → Prop) (w : World) (a0 : Value) : Prop :=
  opv ((convert 5 21 a0).run Tryz.prog w) R fun t4 w =>
  opv ((binOp .add 21 (.int .i32 57344) t4).run Tryz.prog w) R fun t5 w =>
  R (.returned t5) w
theorem F70.eq (R : Ending → World → Prop) (w : World) (a0 : Value) : F70 R w a0 = shF Tryz.prog 70 [0,2] [a0] R w := by kernel_rfl
theorem F70.calls {R : Ending → World → Prop} {w : World} {a0 : Value} (h : F70 R w a0) : Calls Tryz.prog 70 #[a0] w R := shF_sound (F70.eq R w a0 ▸ h)

/-- greenscreen/code.Sign -/
def F71 (R : Ending → World → Prop) (w : World) (a0 a1 : Value) : Prop :=
  join (upd (ini [a0, a1]) 4 (.int .i32 0)) (fun j1 =>
  callF Tryz.prog 84 #[a0] w R fun t8 w =>
  opv ((Builtin.len_ #[138] 3 #[t8]).run Tryz.prog w) R fun t9 w =>
  loop (upd (upd (upd (upd (ini [a0, a1]) 4 (.int .i32 0)) 8 t8) 9 t9) 10 (.int .i64 0)) w fun e2 g2 w j2 =>
  opv ((binOp .lss 3 (g2 10) t9).run Tryz.prog w) R fun t11 w =>
  cond t11 (opv ((Instr.indexAt 138 t8 (g2 10)).run Tryz.prog w) R fun t12 w =>
  opv ((Instr.loadAt 141 t12).run Tryz.prog w) R fun t13 w =>
  opv ((Instr.alloc 141 true (.tuple #[])).run Tryz.prog w) R fun t6 w =>
  opu ((Instr.storeAt 141 t6 t13).run Tryz.prog w) R fun _ w =>
  opv ((Instr.fieldAt 141 t6 0).run Tryz.prog w) R fun t14 w =>
  opv ((Instr.loadAt 5 t14).run Tryz.prog w) R fun t15 w =>
  opv ((binE false .eql 5 t15 a1).run Tryz.prog w) R fun t17 w =>
  cond t17 (opv ((Instr.fieldAt 141 t6 1).run Tryz.prog w) R fun t18 w =>
  opv ((Instr.loadAt 5 t18).run Tryz.prog w) R fun t19 w =>
  opv ((convert 5 21 t19).run Tryz.prog w) R fun t20 w =>
  R (.returned t20) w)
  (opv ((binOp .add 3 (g2 10) (.int .i64 1)).run Tryz.prog w) R fun t21 w =>
  j2 (upd (upd (upd (upd (mix [11,6,17,4,10] g2 e2) 11 t11) 6 t6) 17 t17) 10 t21) w))
  (j1 (upd (mix [11,6,17,4,10] g2 e2) 11 t11) w)) fun e1 g1 w =>
  callF Tryz.prog 85 #[] w R fun t22 w =>
  opv ((Instr.index 142 t22 a1).run Tryz.prog w) R fun t24 w =>
  opv ((convert 5 21 t24).run Tryz.prog w) R fun t25 w =>
  R (.returned t25) w
theorem F71.eq (R : Ending → World → Prop) (w : World) (a0 a1 : Value) : F71 R w a0 a1 = shF Tryz.prog 71 [0,1,4,6,8,9,10,11,17] [a0, a1] R w := by kernel_rfl
theorem F71.calls {R : Ending → World → Prop} {w : World} {a0 a1 : Value} (h : F71 R w a0 a1) : Calls Tryz.prog 71 #[a0, a1] w R := shF_sound (F71.eq R w a0 a1 ▸ h)

/-- greenscreen/addr.Decode -/
def F72 (R : Ending → World → Prop) (w : World) (a0 a1 : Value) : Prop :=
  opv ((binOp .andNot 5 a0 (.int .u8 63)).run Tryz.prog w) R fun t6 w =>
  opv ((binE true .eql 5 t6 (.int .u8 0)).run Tryz.prog w) R fun t7 w =>
  cond t7 (opv ((convert 5 3 a0).run Tryz.prog w) R fun t9 w =>
  opv ((binOp .shl 3 t9 (.int .u64 8)).run Tryz.prog w) R fun t10 w =>
  opv ((convert 5 3 a1).run Tryz.prog w) R fun t12 w =>
  opv ((binOp .or 3 t10 t12).run Tryz.prog w) R fun t13 w =>
  R (.returned t13) w)
  (callF Tryz.prog 86 #[a0] w R fun t15 w =>
  opv ((binOp .shl 3 t15 (.int .u64 6)).run Tryz.prog w) R fun t16 w =>
  callF Tryz.prog 86 #[a1] w R fun t18 w =>
  opv ((binOp .or 3 t16 t18).run Tryz.prog w) R fun t19 w =>
  R (.returned t19) w)
theorem F72.eq (R : Ending → World → Prop) (w : World) (a0 a1 : Value) : F72 R w a0 a1 = shF Tryz.prog 72 [0,1,4,7] [a0, a1] R w := by kernel_rfl
theorem F72.calls {R : Ending → World → Prop} {w : World} {a0 a1 : Value} (h : F72 R w a0 a1) : Calls Tryz.prog 72 #[a0, a1] w R := shF_sound (F72.eq R w a0 a1 ▸ h)

/-- (*greenscreen/grammar.reader).cells -/
def F73 (R : Ending → World → Prop) (w : World) (a0 : Value) : Prop :=
  join (upd (upd (ini [a0]) 2 (.slice none 0 0)) 3 (.slice none 0 0)) (fun j1 =>
  loop (upd (upd (ini [a0]) 2 (.slice none 0 0)) 3 (.slice none 0 0)) w fun e2 g2 w j2 =>
  nilck a0 w fun t5 w =>
  opv ((Instr.fieldAt 105 t5 0).run Tryz.prog w) R fun t6 w =>
  opv ((Instr.loadAt 43 t6).run Tryz.prog w) R fun t7 w =>
  opv ((Builtin.len_ #[43] 3 #[t7]).run Tryz.prog w) R fun t8 w =>
  opv ((binOp .gtr 3 t8 (.int .i64 0)).run Tryz.prog w) R fun t9 w =>
  gd t9 true (fun K => K a0 w) w fun t11 w =>
  gd t9 true (fun K => nilck t11 w K) w fun t12 w =>
  gd t9 true (fun K => opv ((Instr.fieldAt 105 t12 0).run Tryz.prog w) R K) w fun t13 w =>
  gd t9 true (fun K => opv ((Instr.loadAt 43 t13).run Tryz.prog w) R K) w fun t14 w =>
  gd t9 true (fun K => opv ((Instr.indexAt 43 t14 (.int .i64 0)).run Tryz.prog w) R K) w fun t15 w =>
  gd t9 true (fun K => opv ((Instr.loadAt 5 t15).run Tryz.prog w) R K) w fun t16 w =>
  gd t9 true (fun K => opv ((binE true .neq 5 t16 (.int .u8 17)).run Tryz.prog w) R K) w fun t17 w =>
  pick t9 t17 (.bool false) w fun t18 w =>
  cond t18 (callF Tryz.prog 61 #[a0] w R fun t21 w =>
  opv ((Instr.buildSlice 24 1 #[(0, t21)]).run Tryz.prog w) R fun t22 w =>
  opv ((Builtin.append_ #[24, 24] 24 #[(g2 3), t22]).run Tryz.prog w) R fun t23 w =>
  j2 (upd (upd (mix [18,3] g2 e2) 18 t18) 3 t23) w)
  (j1 (upd (mix [18,3] g2 e2) 18 t18) w)) fun e1 g1 w =>
  R (.returned (g1 3)) w
theorem F73.eq (R : Ending → World → Prop) (w : World) (a0 : Value) : F73 R w a0 = shF Tryz.prog 73 [0,2,3,18] [a0] R w := by kernel_rfl
theorem F73.calls {R : Ending → World → Prop} {w : World} {a0 : Value} (h : F73 R w a0) : Calls Tryz.prog 73 #[a0] w R := shF_sound (F73.eq R w a0 ▸ h)

/-- greenscreen/field.look -/
def F74 (R : Ending → World → Prop) (w : World) (a0 a1 a2 : Value) : Prop :=
  opv ((binOp .lss 3 a1 (.int .i64 0)).run Tryz.prog w) R fun t10 w =>
  gd t10 false (fun K => K a1 w) w fun t12 w =>
  gd t10 false (fun K => K a0 w) w fun t13 w =>
  gd t10 false (fun K => callF Tryz.prog 34 #[t13] w R K) w fun t14 w =>
  gd t10 false (fun K => opv ((binOp .geq 3 t12 t14).run Tryz.prog w) R K) w fun t15 w =>
  pick t10 (.bool true) t15 w fun t16 w =>
  cond t16 (R (.returned (.int .i64 (-1))) w)
  (join (upd (upd (ini [a0, a1, a2]) 6 (.int .i64 0)) 16 t16) (fun j1 =>
  callF Tryz.prog 34 #[a0] w R fun t18 w =>
  loop (upd (upd (upd (upd (ini [a0, a1, a2]) 6 (.int .i64 0)) 16 t16) 18 t18) 19 (.int .i64 0)) w fun e2 g2 w j2 =>
  opv ((binOp .lss 3 (g2 19) t18).run Tryz.prog w) R fun t20 w =>
  cond t20 (callF Tryz.prog 78 #[a0] w R fun t23 w =>
  opv ((binOp .mul 3 (g2 19) a2).run Tryz.prog w) R fun t27 w =>
  callF Tryz.prog 77 #[t23, a1, t27] w R fun t28 w =>
  callF Tryz.prog 35 #[a0, t28] w R fun t31 w =>
  opv ((Instr.field 35 t31 2).run Tryz.prog w) R fun t32 w =>
  cond t32 (R (.returned t28) w)
  (opv ((binOp .add 3 (g2 19) (.int .i64 1)).run Tryz.prog w) R fun t34 w =>
  j2 (upd (upd (upd (upd (upd (mix [20,7,8,32,6,19] g2 e2) 20 t20) 7 (g2 19)) 8 t28) 32 t32) 19 t34) w))
  (j1 (upd (mix [20,7,8,32,6,19] g2 e2) 20 t20) w)) fun e1 g1 w =>
  R (.returned (.int .i64 (-1))) w)
theorem F74.eq (R : Ending → World → Prop) (w : World) (a0 a1 a2 : Value) : F74 R w a0 a1 a2 = shF Tryz.prog 74 [0,1,2,6,7,8,16,18,19,20,32] [a0, a1, a2] R w := by kernel_rfl
theorem F74.calls {R : Ending → World → Prop} {w : World} {a0 a1 a2 : Value} (h : F74 R w a0 a1 a2) : Calls Tryz.prog 74 #[a0, a1, a2] w R := shF_sound (F74.eq R w a0 a1 a2 ▸ h)

/-- greenscreen/field.All -/
def F75 (R : Ending → World → Prop) (w : World) (a0 : Value) : Prop :=
  opv ((Instr.box 30 a0).run Tryz.prog w) R fun t1 w =>
  opv ((Instr.makeFunc (.func 87) #[] #[t1]).run Tryz.prog w) R fun t3 w =>
  R (.returned t3) w
theorem F75.eq (R : Ending → World → Prop) (w : World) (a0 : Value) : F75 R w a0 = shF Tryz.prog 75 [0,1,2] [a0] R w := by kernel_rfl
theorem F75.calls {R : Ending → World → Prop} {w : World} {a0 : Value} (h : F75 R w a0) : Calls Tryz.prog 75 #[a0] w R := shF_sound (F75.eq R w a0 ▸ h)

/-- greenscreen/attr.Modified -/
def F76 (R : Ending → World → Prop) (w : World) (a0 : Value) : Prop :=
  opv ((binOp .and 5 a0 (.int .u8 1)).run Tryz.prog w) R fun t4 w =>
  opv ((binE true .neq 5 t4 (.int .u8 0)).run Tryz.prog w) R fun t5 w =>
  R (.returned t5) w
theorem F76.eq (R : Ending → World → Prop) (w : World) (a0 : Value) : F76 R w a0 = shF Tryz.prog 76 [0,2] [a0] R w := by kernel_rfl
theorem F76.calls {R : Ending → World → Prop} {w : World} {a0 : Value} (h : F76 R w a0) : Calls Tryz.prog 76 #[a0] w R := shF_sound (F76.eq R w a0 ▸ h)

/-- greenscreen/addr.Move -/
def F77 (R : Ending → World → Prop) (w : World) (a0 a1 a2 : Value) : Prop :=
  opv ((Instr.box 23 a0).run Tryz.prog w) R fun t3 w =>
  opv ((Instr.loadAt 23 t3).run Tryz.prog w) R fun t8 w =>
  callF Tryz.prog 20 #[t8] w R fun t9 w =>
  opv ((binE true .eql 3 t9 (.int .i64 0)).run Tryz.prog w) R fun t11 w =>
  cond t11 (R (.returned (.int .i64 0)) w)
  (drawn w fun T w =>
  qop T w (fun w K => opv ((binOp .rem 3 a1 t9).run Tryz.prog w) noR K) fun t14 =>
  qop T w (fun w K => opv ((binOp .rem 3 a2 t9).run Tryz.prog w) noR K) fun t17 =>
  qop T w (fun w K => opv ((binOp .add 3 t14 t17).run Tryz.prog w) noR K) fun t18 =>
  qop T w (fun w K => opv ((binOp .rem 3 t18 t9).run Tryz.prog w) noR K) fun t20 =>
  qop T w (fun w K => opv ((binOp .add 3 t20 t9).run Tryz.prog w) noR K) fun t22 =>
  qop T w (fun w K => opv ((binOp .rem 3 t22 t9).run Tryz.prog w) noR K) fun t24 =>
  ext w fun w =>
  R (.returned t24) w)
theorem F77.eq (R : Ending → World → Prop) (w : World) (a0 a1 a2 : Value) : F77 R w a0 a1 a2 = shF Tryz.prog 77 [0,1,2,3,6,7,11] [a0, a1, a2] R w := by kernel_rfl
theorem F77.calls {R : Ending → World → Prop} {w : World} {a0 a1 a2 : Value} (h : F77 R w a0 a1 a2) : Calls Tryz.prog 77 #[a0, a1, a2] w R := shF_sound (F77.eq R w a0 a1 a2 ▸ h)

/-- (*greenscreen/plane.Plane).Size -/
def F78 (R : Ending → World → Prop) (w : World) (a0 : Value) : Prop :=
  opv ((Instr.alloc 23 true (.tuple #[])).run Tryz.prog w) R fun t2 w =>
  nilck a0 w fun t4 w =>
  opv ((Instr.fieldAt 57 t4 0).run Tryz.prog w) R fun t5 w =>
  opv ((Instr.loadAt 23 t5).run Tryz.prog w) R fun t6 w =>
  opu ((Instr.storeAt 23 t2 t6).run Tryz.prog w) R fun _ w =>
  ldv ((Instr.loadAt 23 t2).run Tryz.prog w) w fun r0 =>
  R (.returned r0) w
theorem F78.eq (R : Ending → World → Prop) (w : World) (a0 : Value) : F78 R w a0 = shF Tryz.prog 78 [0,2] [a0] R w := by kernel_rfl
theorem F78.calls {R : Ending → World → Prop} {w : World} {a0 : Value} (h : F78 R w a0) : Calls Tryz.prog 78 #[a0] w R := shF_sound (F78.eq R w a0 ▸ h)

/-- greenscreen/field.Places -/
def F79 (R : Ending → World → Prop) (w : World) (a0 a1 : Value) : Prop :=
  opv ((Instr.box 30 a0).run Tryz.prog w) R fun t2 w =>
  opv ((Instr.box 128 a1).run Tryz.prog w) R fun t3 w =>
  opv ((Instr.makeFunc (.func 89) #[] #[t3, t2]).run Tryz.prog w) R fun t5 w =>
  R (.returned t5) w
theorem F79.eq (R : Ending → World → Prop) (w : World) (a0 a1 : Value) : F79 R w a0 a1 = shF Tryz.prog 79 [0,1,2,3,4] [a0, a1] R w := by kernel_rfl
theorem F79.calls {R : Ending → World → Prop} {w : World} {a0 a1 : Value} (h : F79 R w a0 a1) : Calls Tryz.prog 79 #[a0, a1] w R := shF_sound (F79.eq R w a0 a1 ▸ h)

/-- greenscreen/reply.empty -/
def F80 (R : Ending → World → Prop) (w : World) (a0 : Value) : Prop :=
  opv ((Instr.box 35 a0).run Tryz.prog w) R fun t1 w =>
  opv ((Instr.fieldAt 35 t1 0).run Tryz.prog w) R fun t3 w =>
  opv ((Instr.loadAt 5 t3).run Tryz.prog w) R fun t4 w =>
  opv ((binE true .eql 5 t4 (.int .u8 0)).run Tryz.prog w) R fun t5 w =>
  gd t5 true (fun K => opv ((Instr.fieldAt 35 t1 1).run Tryz.prog w) R K) w fun t7 w =>
  gd t5 true (fun K => opv ((Instr.loadAt 4 t7).run Tryz.prog w) R K) w fun t8 w =>
  gd t5 true (fun K => opv ((Op.unary .not t8).run Tryz.prog w) R K) w fun t9 w =>
  pick t5 t9 (.bool false) w fun t10 w =>
  R (.returned t10) w
theorem F80.eq (R : Ending → World → Prop) (w : World) (a0 : Value) : F80 R w a0 = shF Tryz.prog 80 [0,1,2] [a0] R w := by kernel_rfl
theorem F80.calls {R : Ending → World → Prop} {w : World} {a0 : Value} (h : F80 R w a0) : Calls Tryz.prog 80 #[a0] w R := shF_sound (F80.eq R w a0 ▸ h)

/-- greenscreen/keyboard.attention -/
def F81 (R : Ending → World → Prop) (w : World) (a0 : Value) : Prop :=
  callF Tryz.prog 90 #[a0] w R fun t5 w =>
  opv ((binOp .gtr 3 t5 (.int .i64 0)).run Tryz.prog w) R fun t7 w =>
  cond t7 (callF Tryz.prog 43 #[t5] w R fun t9 w =>
  opv ((binOp .add 9 (.string ⟨#[80, 70]⟩) t9).run Tryz.prog w) R fun t10 w =>
  R (.returned t10) w)
  (callF Tryz.prog 53 #[a0] w R fun t12 w =>
  R (.returned t12) w)
theorem F81.eq (R : Ending → World → Prop) (w : World) (a0 : Value) : F81 R w a0 = shF Tryz.prog 81 [0,2,3,7] [a0] R w := by kernel_rfl
theorem F81.calls {R : Ending → World → Prop} {w : World} {a0 : Value} (h : F81 R w a0) : Calls Tryz.prog 81 #[a0] w R := shF_sound (F81.eq R w a0 ▸ h)

/-- greenscreen/code.swaps -/
def F84 (R : Ending → World → Prop) (w : World) (a0 : Value) : Prop :=
  opv ((binE true .eql 3 a0 (.int .i64 500)).run Tryz.prog w) R fun t5 w =>
  cond t5 (opv ((Instr.build 141 #[(0, (.int .u8 74)), (1, (.int .u8 91))]).run Tryz.prog w) R fun t6 w =>
  opv ((Instr.build 141 #[(0, (.int .u8 79)), (1, (.int .u8 33))]).run Tryz.prog w) R fun t7 w =>
  opv ((Instr.build 141 #[(0, (.int .u8 90)), (1, (.int .u8 93))]).run Tryz.prog w) R fun t8 w =>
  opv ((Instr.build 141 #[(0, (.int .u8 95)), (1, (.int .u8 94))]).run Tryz.prog w) R fun t9 w =>
  opv ((Instr.build 141 #[(0, (.int .u8 176)), (1, (.int .u8 162))]).run Tryz.prog w) R fun t10 w =>
  opv ((Instr.build 141 #[(0, (.int .u8 186)), (1, (.int .u8 172))]).run Tryz.prog w) R fun t11 w =>
  opv ((Instr.build 141 #[(0, (.int .u8 187)), (1, (.int .u8 124))]).run Tryz.prog w) R fun t12 w =>
  opv ((Instr.buildSlice 138 7 #[(0, t6), (1, t7), (2, t8), (3, t9), (4, t10), (5, t11), (6, t12)]).run Tryz.prog w) R fun t13 w =>
  R (.returned t13) w)
  (opv ((binE true .eql 3 a0 (.int .i64 1047)).run Tryz.prog w) R fun t15 w =>
  cond t15 (opv ((Instr.build 141 #[(0, (.int .u8 95)), (1, (.int .u8 94))]).run Tryz.prog w) R fun t16 w =>
  opv ((Instr.build 141 #[(0, (.int .u8 173)), (1, (.int .u8 91))]).run Tryz.prog w) R fun t17 w =>
  opv ((Instr.build 141 #[(0, (.int .u8 176)), (1, (.int .u8 172))]).run Tryz.prog w) R fun t18 w =>
  opv ((Instr.build 141 #[(0, (.int .u8 186)), (1, (.int .u8 221))]).run Tryz.prog w) R fun t19 w =>
  opv ((Instr.build 141 #[(0, (.int .u8 187)), (1, (.int .u8 168))]).run Tryz.prog w) R fun t20 w =>
  opv ((Instr.build 141 #[(0, (.int .u8 189)), (1, (.int .u8 93))]).run Tryz.prog w) R fun t21 w =>
  opv ((Instr.buildSlice 138 6 #[(0, t16), (1, t17), (2, t18), (3, t19), (4, t20), (5, t21)]).run Tryz.prog w) R fun t22 w =>
  R (.returned t22) w)
  (R (.returned (.slice none 0 0)) w))
theorem F84.eq (R : Ending → World → Prop) (w : World) (a0 : Value) : F84 R w a0 = shF Tryz.prog 84 [0,2,3,4,14] [a0] R w := by kernel_rfl
theorem F84.calls {R : Ending → World → Prop} {w : World} {a0 : Value} (h : F84 R w a0) : Calls Tryz.prog 84 #[a0] w R := shF_sound (F84.eq R w a0 ▸ h)

/-- greenscreen/addr.Value -/
def F86 (R : Ending → World → Prop) (w : World) (a0 : Value) : Prop :=
  opv ((binOp .and 5 a0 (.int .u8 63)).run Tryz.prog w) R fun t4 w =>
  opv ((convert 5 3 t4).run Tryz.prog w) R fun t5 w =>
  R (.returned t5) w
theorem F86.eq (R : Ending → World → Prop) (w : World) (a0 : Value) : F86 R w a0 = shF Tryz.prog 86 [0,2] [a0] R w := by kernel_rfl
theorem F86.calls {R : Ending → World → Prop} {w : World} {a0 : Value} (h : F86 R w a0) : Calls Tryz.prog 86 #[a0] w R := shF_sound (F86.eq R w a0 ▸ h)

/-- greenscreen/field.All$1 -/
def F87 (R : Ending → World → Prop) (w : World) (a0 a1 : Value) : Prop :=
  opv ((Instr.loadAt 30 a1).run Tryz.prog w) R fun t4 w =>
  callF Tryz.prog 34 #[t4] w R fun t5 w =>
  loop (upd (upd (ini [a0, a1]) 5 t5) 6 (.int .i64 0)) w fun e1 g1 w j1 =>
  opv ((binOp .lss 3 (g1 6) t5).run Tryz.prog w) R fun t7 w =>
  cond t7 (opv ((Instr.loadAt 30 a1).run Tryz.prog w) R fun t9 w =>
  callF Tryz.prog 35 #[t9, (g1 6)] w R fun t11 w =>
  opv ((Instr.field 35 t11 2).run Tryz.prog w) R fun t12 w =>
  gd t12 true (fun K => K a0 w) w fun t14 w =>
  gd t12 true (fun K => opv ((Instr.loadAt 30 a1).run Tryz.prog w) R K) w fun t15 w =>
  gd t12 true (fun K => K (g1 6) w) w fun t16 w =>
  gd t12 true (fun K => callF Tryz.prog 88 #[t15, t16] w R K) w fun t17 w =>
  gd t12 true (fun K => callY Tryz.prog t14 #[t17] w R K) w fun t18 w =>
  gd t12 true (fun K => opv ((Op.unary .not t18).run Tryz.prog w) R K) w fun t19 w =>
  pick t12 t19 (.bool false) w fun t20 w =>
  cond t20 (R (.returned (.tuple #[])) w)
  (opv ((binOp .add 3 (g1 6) (.int .i64 1)).run Tryz.prog w) R fun t21 w =>
  j1 (upd (upd (upd (upd (mix [7,3,20,6] g1 e1) 7 t7) 3 (g1 6)) 20 t20) 6 t21) w))
  (R (.returned (.tuple #[])) w)
theorem F87.eq (R : Ending → World → Prop) (w : World) (a0 a1 : Value) : F87 R w a0 a1 = shF Tryz.prog 87 [0,1,3,5,6,7,20] [a0, a1] R w := by kernel_rfl
theorem F87.calls {R : Ending → World → Prop} {w : World} {a0 a1 : Value} (h : F87 R w a0 a1) : Calls Tryz.prog 87 #[a0, a1] w R := shF_sound (F87.eq R w a0 a1 ▸ h)

/-- greenscreen/field.at -/
def F88 (R : Ending → World → Prop) (w : World) (a0 a1 : Value) : Prop :=
  opv ((Instr.alloc 128 true (.tuple #[])).run Tryz.prog w) R fun t4 w =>
  callF Tryz.prog 95 #[a0, a1] w R fun t8 w =>
  opv ((binOp .sub 3 t8 a1).run Tryz.prog w) R fun t10 w =>
  opv ((binOp .sub 3 t10 (.int .i64 1)).run Tryz.prog w) R fun t11 w =>
  join (upd (upd (ini [a0, a1]) 4 t4) 5 t11) (fun j1 =>
  opv ((binOp .lss 3 t11 (.int .i64 0)).run Tryz.prog w) R fun t13 w =>
  cond t13 (callF Tryz.prog 34 #[a0] w R fun t16 w =>
  opv ((binOp .add 3 t11 t16).run Tryz.prog w) R fun t17 w =>
  j1 (upd (upd (upd (upd (ini [a0, a1]) 4 t4) 5 t11) 13 t13) 5 t17) w)
  (j1 (upd (upd (upd (ini [a0, a1]) 4 t4) 5 t11) 13 t13) w)) fun e1 g1 w =>
  callF Tryz.prog 35 #[a0, a1] w R fun t22 w =>
  opv ((Instr.field 35 t22 0).run Tryz.prog w) R fun t23 w =>
  opv ((binOp .and 5 t23 (.int .u8 63)).run Tryz.prog w) R fun t24 w =>
  opv ((Instr.build 128 #[(0, a1), (1, (g1 5)), (2, t24)]).run Tryz.prog w) R fun t25 w =>
  opu ((Instr.storeAt 128 t4 t25).run Tryz.prog w) R fun _ w =>
  ldv ((Instr.loadAt 128 t4).run Tryz.prog w) w fun r0 =>
  R (.returned r0) w
theorem F88.eq (R : Ending → World → Prop) (w : World) (a0 a1 : Value) : F88 R w a0 a1 = shF Tryz.prog 88 [0,1,4,5,13] [a0, a1] R w := by kernel_rfl
theorem F88.calls {R : Ending → World → Prop} {w : World} {a0 a1 : Value} (h : F88 R w a0 a1) : Calls Tryz.prog 88 #[a0, a1] w R := shF_sound (F88.eq R w a0 a1 ▸ h)

/-- greenscreen/field.Places$1 -/
def F89 (R : Ending → World → Prop) (w : World) (a0 a1 a2 : Value) : Prop :=
  drawn w fun T w =>
  qop T w (fun w K => opv ((Instr.fieldAt 128 a1 0).run Tryz.prog w) noR K) fun t5 =>
  qop T w (fun w K => opv ((Instr.loadAt 3 t5).run Tryz.prog w) noR K) fun t6 =>
  qop T w (fun w K => opv ((binOp .lss 3 t6 (.int .i64 0)).run Tryz.prog w) noR K) fun t7 =>
  qop T w (fun w K => gd t7 false (fun K => opv ((Instr.fieldAt 128 a1 0).run Tryz.prog w) noR K) w K) fun t9 =>
  qop T w (fun w K => gd t7 false (fun K => opv ((Instr.loadAt 3 t9).run Tryz.prog w) noR K) w K) fun t10 =>
  qop T w (fun w K => gd t7 false (fun K => opv ((Instr.loadAt 30 a2).run Tryz.prog w) noR K) w K) fun t11 =>
  qop T w (fun w K => gd t7 false (fun K => callF Tryz.prog 34 #[t11] w noR K) w K) fun t12 =>
  qop T w (fun w K => gd t7 false (fun K => opv ((binOp .geq 3 t10 t12).run Tryz.prog w) noR K) w K) fun t13 =>
  qop T w (fun w K => pick t7 (.bool true) t13 w K) fun t14 =>
  ext w fun w =>
  cond t14 (R (.returned (.tuple #[])) w)
  (drawn w fun T w =>
  qop T w (fun w K => opv ((Instr.fieldAt 128 a1 1).run Tryz.prog w) noR K) fun t15 =>
  qop T w (fun w K => opv ((Instr.loadAt 3 t15).run Tryz.prog w) noR K) fun t16 =>
  qop T w (fun w K => opv ((Builtin.max_ #[3, 3] 3 #[t16, (.int .i64 0)]).run Tryz.prog w) noR K) fun t17 =>
  qop T w (fun w K => opv ((Instr.loadAt 30 a2).run Tryz.prog w) noR K) fun t18 =>
  qop T w (fun w K => callF Tryz.prog 34 #[t18] w noR K) fun t19 =>
  qop T w (fun w K => opv ((Builtin.min_ #[3, 3] 3 #[t17, t19]).run Tryz.prog w) noR K) fun t20 =>
  ext w fun w =>
  loop (upd (upd (upd (ini [a0, a1, a2]) 14 t14) 20 t20) 21 (.int .i64 0)) w fun e1 g1 w j1 =>
  opv ((binOp .lss 3 (g1 21) t20).run Tryz.prog w) R fun t22 w =>
  cond t22 (drawn w fun T w =>
  qop T w (fun w K => opv ((Instr.loadAt 30 a2).run Tryz.prog w) noR K) fun t25 =>
  qop T w (fun w K => callF Tryz.prog 78 #[t25] w noR K) fun t26 =>
  qop T w (fun w K => opv ((Instr.fieldAt 128 a1 0).run Tryz.prog w) noR K) fun t27 =>
  qop T w (fun w K => opv ((Instr.loadAt 3 t27).run Tryz.prog w) noR K) fun t28 =>
  qop T w (fun w K => opv ((binOp .add 3 (g1 21) (.int .i64 1)).run Tryz.prog w) noR K) fun t30 =>
  qop T w (fun w K => callF Tryz.prog 77 #[t26, t28, t30] w noR K) fun t31 =>
  ext w fun w =>
  lop T w (fun w K => callY Tryz.prog a0 #[t31] w R K) fun t32 w =>
  qop T w (fun w K => opv ((Op.unary .not t32).run Tryz.prog w) noR K) fun t33 =>
  ext w fun w =>
  cond t33 (R (.returned (.tuple #[])) w)
  (opv ((binOp .add 3 (g1 21) (.int .i64 1)).run Tryz.prog w) R fun t34 w =>
  j1 (upd (upd (upd (upd (mix [22,4,33,21] g1 e1) 22 t22) 4 (g1 21)) 33 t33) 21 t34) w))
  (R (.returned (.tuple #[])) w))
theorem F89.eq (R : Ending → World → Prop) (w : World) (a0 a1 a2 : Value) : F89 R w a0 a1 a2 = shF Tryz.prog 89 [0,1,2,4,14,20,21,22,33] [a0, a1, a2] R w := by kernel_rfl
theorem F89.calls {R : Ending → World → Prop} {w : World} {a0 a1 a2 : Value} (h : F89 R w a0 a1 a2) : Calls Tryz.prog 89 #[a0, a1, a2] w R := shF_sound (F89.eq R w a0 a1 a2 ▸ h)

/-- greenscreen/keyboard.function -/
def F90 (R : Ending → World → Prop) (w : World) (a0 : Value) : Prop :=
  join (upd (upd (ini [a0]) 2 (.int .i64 0)) 3 (.int .i64 0)) (fun j1 =>
  opv ((binOp .geq 5 a0 (.int .u8 241)).run Tryz.prog w) R fun t6 w =>
  gd t6 true (fun K => K a0 w) w fun t8 w =>
  gd t6 true (fun K => opv ((binOp .leq 5 t8 (.int .u8 249)).run Tryz.prog w) R K) w fun t9 w =>
  pick t6 t9 (.bool false) w fun t10 w =>
  cond t10 (opv ((binOp .sub 5 a0 (.int .u8 240)).run Tryz.prog w) R fun t12 w =>
  opv ((convert 5 3 t12).run Tryz.prog w) R fun t13 w =>
  j1 (upd (upd (upd (upd (ini [a0]) 2 (.int .i64 0)) 3 (.int .i64 0)) 4 t10) 3 t13) w)
  (opv ((binOp .geq 5 a0 (.int .u8 122)).run Tryz.prog w) R fun t16 w =>
  gd t16 true (fun K => K a0 w) w fun t18 w =>
  gd t16 true (fun K => opv ((binOp .leq 5 t18 (.int .u8 124)).run Tryz.prog w) R K) w fun t19 w =>
  pick t16 t19 (.bool false) w fun t20 w =>
  cond t20 (opv ((binOp .sub 5 a0 (.int .u8 122)).run Tryz.prog w) R fun t22 w =>
  opv ((convert 5 3 t22).run Tryz.prog w) R fun t23 w =>
  opv ((binOp .add 3 t23 (.int .i64 10)).run Tryz.prog w) R fun t24 w =>
  j1 (upd (upd (upd (upd (upd (ini [a0]) 2 (.int .i64 0)) 3 (.int .i64 0)) 4 t10) 14 t20) 3 t24) w)
  (opv ((binOp .geq 5 a0 (.int .u8 193)).run Tryz.prog w) R fun t27 w =>
  gd t27 true (fun K => K a0 w) w fun t29 w =>
  gd t27 true (fun K => opv ((binOp .leq 5 t29 (.int .u8 201)).run Tryz.prog w) R K) w fun t30 w =>
  pick t27 t30 (.bool false) w fun t31 w =>
  cond t31 (opv ((binOp .sub 5 a0 (.int .u8 192)).run Tryz.prog w) R fun t33 w =>
  opv ((convert 5 3 t33).run Tryz.prog w) R fun t34 w =>
  opv ((binOp .add 3 t34 (.int .i64 12)).run Tryz.prog w) R fun t35 w =>
  j1 (upd (upd (upd (upd (upd (upd (ini [a0]) 2 (.int .i64 0)) 3 (.int .i64 0)) 4 t10) 14 t20) 25 t31) 3 t35) w)
  (opv ((binOp .geq 5 a0 (.int .u8 74)).run Tryz.prog w) R fun t38 w =>
  gd t38 true (fun K => K a0 w) w fun t40 w =>
  gd t38 true (fun K => opv ((binOp .leq 5 t40 (.int .u8 76)).run Tryz.prog w) R K) w fun t41 w =>
  pick t38 t41 (.bool false) w fun t42 w =>
  cond t42 (opv ((binOp .sub 5 a0 (.int .u8 74)).run Tryz.prog w) R fun t44 w =>
  opv ((convert 5 3 t44).run Tryz.prog w) R fun t45 w =>
  opv ((binOp .add 3 t45 (.int .i64 22)).run Tryz.prog w) R fun t46 w =>
  j1 (upd (upd (upd (upd (upd (upd (upd (ini [a0]) 2 (.int .i64 0)) 3 (.int .i64 0)) 4 t10) 14 t20) 25 t31) 36 t42) 3 t46) w)
  (j1 (upd (upd (upd (upd (upd (upd (ini [a0]) 2 (.int .i64 0)) 3 (.int .i64 0)) 4 t10) 14 t20) 25 t31) 36 t42) w))))) fun e1 g1 w =>
  R (.returned (g1 3)) w
theorem F90.eq (R : Ending → World → Prop) (w : World) (a0 : Value) : F90 R w a0 = shF Tryz.prog 90 [0,2,3,4,14,25,36] [a0] R w := by kernel_rfl
theorem F90.calls {R : Ending → World → Prop} {w : World} {a0 : Value} (h : F90 R w a0) : Calls Tryz.prog 90 #[a0] w R := shF_sound (F90.eq R w a0 ▸ h)

/-- greenscreen/field.After -/
def F95 (R : Ending → World → Prop) (w : World) (a0 a1 : Value) : Prop :=
  opv ((binOp .lss 3 a1 (.int .i64 0)).run Tryz.prog w) R fun t6 w =>
  gd t6 false (fun K => K a1 w) w fun t8 w =>
  gd t6 false (fun K => K a0 w) w fun t9 w =>
  gd t6 false (fun K => callF Tryz.prog 34 #[t9] w R K) w fun t10 w =>
  gd t6 false (fun K => opv ((binOp .geq 3 t8 t10).run Tryz.prog w) R K) w fun t11 w =>
  pick t6 (.bool true) t11 w fun t12 w =>
  cond t12 (R (.returned (.int .i64 (-1))) w)
  (callF Tryz.prog 78 #[a0] w R fun t15 w =>
  callF Tryz.prog 77 #[t15, a1, (.int .i64 1)] w R fun t17 w =>
  callF Tryz.prog 74 #[a0, t17, (.int .i64 1)] w R fun t18 w =>
  R (.returned t18) w)
theorem F95.eq (R : Ending → World → Prop) (w : World) (a0 a1 : Value) : F95 R w a0 a1 = shF Tryz.prog 95 [0,1,4,12] [a0, a1] R w := by kernel_rfl
theorem F95.calls {R : Ending → World → Prop} {w : World} {a0 a1 : Value} (h : F95 R w a0 a1) : Calls Tryz.prog 95 #[a0, a1] w R := shF_sound (F95.eq R w a0 a1 ▸ h)

end Go.Proofs.YtkjkmahpkfbbnaaGreatDoor
