/-
  Shallow forms of functions of the loaded program, each tied to it. No condition.
-/
import Derived.Test.YtojcbhkhfcddnaaDoorProg
import Derived.Test.YtojcbhkhfcddnaaDoorShSound
import Derived.KernelRfl
namespace Go.Proofs.YtojcbhkhfcddnaaDoor
open Go Go.Sh
set_option linter.unusedVariables false
set_option maxRecDepth 100000
/-- greenscreen/plane.New -/
def F9 (R : Ending → World → Prop) (w : World) (a0 : Value) : Prop :=
  opv ((Instr.box 23 a0).run Tryd.prog w) R fun t1 w =>
  opv ((Instr.loadAt 23 t1).run Tryd.prog w) R fun t5 w =>
  callF Tryd.prog 31 #[t5] w R fun t6 w =>
  opv ((binE true .eql 3 t6 (.int .i64 0)).run Tryd.prog w) R fun t8 w =>
  cond t8 (R (.returned (.tuple #[(.pointer none), (.int .i64 1)])) w)
  (drawn w fun T w =>
  qop T w (fun w K => opv ((Instr.loadAt 23 t1).run Tryd.prog w) noR K) fun t9 =>
  ext w fun w =>
  lop T w (fun w K => opv ((Instr.makeSlice 30 t6 t6).run Tryd.prog w) R K) fun t11 w =>
  qop T w (fun w K => opv ((Instr.build 66 #[(0, t9), (1, t11)]).run Tryd.prog w) noR K) fun t12 =>
  ext w fun w =>
  lop T w (fun w K => opv ((Instr.box 66 t12).run Tryd.prog w) R K) fun t13 w =>
  ext w fun w =>
  R (.returned (.tuple #[t13, (.int .i64 0)])) w)
theorem F9.eq (R : Ending → World → Prop) (w : World) (a0 : Value) : F9 R w a0 = shF Tryd.prog 9 [0,1,2,3,4,8] [a0] R w := by kernel_rfl
theorem F9.calls {R : Ending → World → Prop} {w : World} {a0 : Value} (h : F9 R w a0) : Calls Tryd.prog 9 #[a0] w R := shF_sound (F9.eq R w a0 ▸ h)

/-- greenscreen/greenscreenref14.New -/
def F10 (R : Ending → World → Prop) (w : World) (a0 : Value) : Prop :=
  opv ((Instr.box 23 a0).run Tryd.prog w) R fun t1 w =>
  opv ((Instr.alloc 32 true (.tuple #[])).run Tryd.prog w) R fun t2 w =>
  opv ((Instr.loadAt 23 t1).run Tryd.prog w) R fun t5 w =>
  callF Tryd.prog 32 #[t5] w R fun t6 w =>
  opv ((binE true .eql 3 t6 (.int .i64 0)).run Tryd.prog w) R fun t8 w =>
  cond t8 (opv ((Instr.build 32 #[]).run Tryd.prog w) R fun t9 w =>
  opu ((Instr.storeAt 32 t2 t9).run Tryd.prog w) R fun _ w =>
  ldv ((Instr.loadAt 32 t2).run Tryd.prog w) w fun r0 =>
  R (.returned (.tuple #[r0, (.int .i64 1)])) w)
  (drawn w fun T w =>
  qop T w (fun w K => opv ((Instr.loadAt 23 t1).run Tryd.prog w) noR K) fun t10 =>
  ext w fun w =>
  lop T w (fun w K => opv ((Instr.makeSlice 30 t6 t6).run Tryd.prog w) R K) fun t12 w =>
  qop T w (fun w K => opv ((Instr.build 32 #[(0, t10), (1, t12)]).run Tryd.prog w) noR K) fun t13 =>
  ext w fun w =>
  opu ((Instr.storeAt 32 t2 t13).run Tryd.prog w) R fun _ w =>
  ext w fun w =>
  ldv ((Instr.loadAt 32 t2).run Tryd.prog w) w fun r0 =>
  R (.returned (.tuple #[r0, (.int .i64 0)])) w)
theorem F10.eq (R : Ending → World → Prop) (w : World) (a0 : Value) : F10 R w a0 = shF Tryd.prog 10 [0,1,2,3,4,8] [a0] R w := by kernel_rfl
theorem F10.calls {R : Ending → World → Prop} {w : World} {a0 : Value} (h : F10 R w a0) : Calls Tryd.prog 10 #[a0] w R := shF_sound (F10.eq R w a0 ▸ h)

/-- (*greenscreen/plane.Plane).Set -/
def F11 (R : Ending → World → Prop) (w : World) (a0 a1 a2 : Value) : Prop :=
  opv ((Instr.box 36 a2).run Tryd.prog w) R fun t5 w =>
  callF Tryd.prog 33 #[a0, a1] w R fun t9 w =>
  opv ((Op.unary .not t9).run Tryd.prog w) R fun t10 w =>
  cond t10 (R (.returned (.bool false)) w)
  (drawn w fun T w =>
  qop T w (fun w K => nilck a0 w K) fun t12 =>
  qop T w (fun w K => opv ((Instr.fieldAt 66 t12 1).run Tryd.prog w) noR K) fun t13 =>
  qop T w (fun w K => opv ((Instr.loadAt 30 t13).run Tryd.prog w) noR K) fun t14 =>
  qop T w (fun w K => opv ((Instr.loadAt 36 t5).run Tryd.prog w) noR K) fun t16 =>
  qop T w (fun w K => opv ((Instr.indexAt 30 t14 a1).run Tryd.prog w) noR K) fun t17 =>
  ext w fun w =>
  opu ((Instr.storeAt 36 t17 t16).run Tryd.prog w) R fun _ w =>
  ext w fun w =>
  R (.returned (.bool true)) w)
theorem F11.eq (R : Ending → World → Prop) (w : World) (a0 a1 a2 : Value) : F11 R w a0 a1 a2 = shF Tryd.prog 11 [0,1,2,5,6,10] [a0, a1, a2] R w := by kernel_rfl
theorem F11.calls {R : Ending → World → Prop} {w : World} {a0 a1 a2 : Value} (h : F11 R w a0 a1 a2) : Calls Tryd.prog 11 #[a0, a1, a2] w R := shF_sound (F11.eq R w a0 a1 a2 ▸ h)

/-- greenscreen/greenscreenref14.Has -/
def F12 (R : Ending → World → Prop) (w : World) (a0 a1 : Value) : Prop :=
  opv ((Instr.box 32 a0).run Tryd.prog w) R fun t2 w =>
  opv ((binOp .geq 3 a1 (.int .i64 0)).run Tryd.prog w) R fun t6 w =>
  gd t6 true (fun K => K a1 w) w fun t8 w =>
  gd t6 true (fun K => opv ((Instr.fieldAt 32 t2 1).run Tryd.prog w) R K) w fun t9 w =>
  gd t6 true (fun K => opv ((Instr.loadAt 30 t9).run Tryd.prog w) R K) w fun t10 w =>
  gd t6 true (fun K => opv ((Builtin.len_ #[30] 3 #[t10]).run Tryd.prog w) R K) w fun t11 w =>
  gd t6 true (fun K => opv ((binOp .lss 3 t8 t11).run Tryd.prog w) R K) w fun t12 w =>
  pick t6 t12 (.bool false) w fun t13 w =>
  R (.returned t13) w
theorem F12.eq (R : Ending → World → Prop) (w : World) (a0 a1 : Value) : F12 R w a0 a1 = shF Tryd.prog 12 [0,1,2,4] [a0, a1] R w := by kernel_rfl
theorem F12.calls {R : Ending → World → Prop} {w : World} {a0 a1 : Value} (h : F12 R w a0 a1) : Calls Tryd.prog 12 #[a0, a1] w R := shF_sound (F12.eq R w a0 a1 ▸ h)

/-- greenscreen/greenscreenref14.Set -/
def F13 (R : Ending → World → Prop) (w : World) (a0 a1 a2 : Value) : Prop :=
  opv ((Instr.box 32 a0).run Tryd.prog w) R fun t3 w =>
  opv ((Instr.box 36 a2).run Tryd.prog w) R fun t5 w =>
  opv ((Instr.alloc 32 true (.tuple #[])).run Tryd.prog w) R fun t6 w =>
  join (upd (upd (upd (ini [a0, a1, a2]) 3 t3) 5 t5) 6 t6) (fun j1 =>
  opv ((Instr.loadAt 32 t3).run Tryd.prog w) R fun t8 w =>
  callF Tryd.prog 12 #[t8, a1] w R fun t10 w =>
  cond t10 (opv ((Instr.buildSlice 30 0 #[]).run Tryd.prog w) R fun t11 w =>
  opv ((Instr.fieldAt 32 t3 1).run Tryd.prog w) R fun t13 w =>
  opv ((Instr.loadAt 30 t13).run Tryd.prog w) R fun t14 w =>
  opv ((Builtin.append_ #[30, 30] 30 #[t11, t14]).run Tryd.prog w) R fun t15 w =>
  opv ((Instr.loadAt 36 t5).run Tryd.prog w) R fun t18 w =>
  opv ((Instr.indexAt 30 t15 a1).run Tryd.prog w) R fun t19 w =>
  opu ((Instr.storeAt 36 t19 t18).run Tryd.prog w) R fun _ w =>
  opv ((Instr.fieldAt 32 t3 1).run Tryd.prog w) R fun t21 w =>
  opu ((Instr.storeAt 30 t21 t15).run Tryd.prog w) R fun _ w =>
  j1 (upd (upd (upd (upd (upd (upd (ini [a0, a1, a2]) 3 t3) 5 t5) 6 t6) 10 t10) 7 t11) 7 t15) w)
  (j1 (upd (upd (upd (upd (ini [a0, a1, a2]) 3 t3) 5 t5) 6 t6) 10 t10) w)) fun e1 g1 w =>
  opv ((Instr.loadAt 32 t3).run Tryd.prog w) R fun t22 w =>
  opu ((Instr.storeAt 32 t6 t22).run Tryd.prog w) R fun _ w =>
  ldv ((Instr.loadAt 32 t6).run Tryd.prog w) w fun r0 =>
  R (.returned r0) w
theorem F13.eq (R : Ending → World → Prop) (w : World) (a0 a1 a2 : Value) : F13 R w a0 a1 a2 = shF Tryd.prog 13 [0,1,2,3,5,6,7,10] [a0, a1, a2] R w := by kernel_rfl
theorem F13.calls {R : Ending → World → Prop} {w : World} {a0 a1 a2 : Value} (h : F13 R w a0 a1 a2) : Calls Tryd.prog 13 #[a0, a1, a2] w R := shF_sound (F13.eq R w a0 a1 a2 ▸ h)

/-- (*greenscreen/plane.Plane).Point -/
def F14 (R : Ending → World → Prop) (w : World) (a0 a1 : Value) : Prop :=
  callF Tryd.prog 33 #[a0, a1] w R fun t7 w =>
  opv ((Op.unary .not t7).run Tryd.prog w) R fun t8 w =>
  cond t8 (R (.returned (.bool false)) w)
  (nilck a0 w fun t11 w =>
  opv ((Instr.fieldAt 66 t11 2).run Tryd.prog w) R fun t12 w =>
  opu ((Instr.storeAt 3 t12 a1).run Tryd.prog w) R fun _ w =>
  R (.returned (.bool true)) w)
theorem F14.eq (R : Ending → World → Prop) (w : World) (a0 a1 : Value) : F14 R w a0 a1 = shF Tryd.prog 14 [0,1,4,8] [a0, a1] R w := by kernel_rfl
theorem F14.calls {R : Ending → World → Prop} {w : World} {a0 a1 : Value} (h : F14 R w a0 a1) : Calls Tryd.prog 14 #[a0, a1] w R := shF_sound (F14.eq R w a0 a1 ▸ h)

/-- (*greenscreen/plane.Plane).Fill -/
def F15 (R : Ending → World → Prop) (w : World) (a0 a1 a2 a3 : Value) : Prop :=
  opv ((Instr.box 26 a0).run Tryd.prog w) (noP R) fun t4 w =>
  opv ((Instr.box 36 a3).run Tryd.prog w) (noP R) fun t7 w =>
  opv ((Instr.alloc 3 true (.tuple #[])).run Tryd.prog w) (noP R) fun t9 w =>
  opu ((Instr.storeAt 3 t9 (.int .i64 0)).run Tryd.prog w) (noP R) fun _ w =>
  join (upd (upd (upd (upd (ini [a0, a1, a2, a3]) 4 t4) 7 t7) 8 (.int .i64 0)) 9 t9) (fun j1 =>
  opv ((Instr.loadAt 26 t4).run Tryd.prog w) (noP R) fun t11 w =>
  nilck t11 w fun t12 w =>
  opv ((Instr.fieldAt 66 t12 0).run Tryd.prog w) (noP R) fun t13 w =>
  opv ((Instr.loadAt 23 t13).run Tryd.prog w) (noP R) fun t14 w =>
  callF Tryd.prog 34 #[t14, a1, a2] w (noP R) fun t17 w =>
  rangeF Tryd.prog t17 1 w (fun xs2 w mid2 fin2 =>
  mid2 (fun w => drawn w fun T w =>
  qop T w (fun w K => opv ((Instr.loadAt 26 t4).run Tryd.prog w) noR K) fun t19 =>
  qop T w (fun w K => nilck t19 w K) fun t20 =>
  qop T w (fun w K => opv ((Instr.fieldAt 66 t20 1).run Tryd.prog w) noR K) fun t21 =>
  qop T w (fun w K => opv ((Instr.loadAt 30 t21).run Tryd.prog w) noR K) fun t22 =>
  qop T w (fun w K => opv ((Instr.loadAt 36 t7).run Tryd.prog w) noR K) fun t24 =>
  qop T w (fun w K => opv ((Instr.indexAt 30 t22 (xs2.getD 0 undef)).run Tryd.prog w) noR K) fun t25 =>
  ext w fun w =>
  opu ((Instr.storeAt 36 t25 t24).run Tryd.prog w) noR fun _ w =>
  ext w fun w =>
  opv ((Instr.loadAt 3 t9).run Tryd.prog w) noR fun t26 w =>
  opv ((binOp .add 3 t26 (.int .i64 1)).run Tryd.prog w) noR fun t27 w =>
  opu ((Instr.storeAt 3 t9 t27).run Tryd.prog w) noR fun _ w =>
  fin2 .normal w) w)
  (fun D w => j1 (upd (upd (upd (upd (upd (upd (ini [a0, a1, a2, a3]) 4 t4) 7 t7) 8 (.int .i64 0)) 9 t9) 17 t17) 1000000 (mkV D undef)) w)
  []) fun e1 g1 w =>
  opv ((Instr.loadAt 3 t9).run Tryd.prog w) (noP R) fun t28 w =>
  leaveM (mkD (g1 1000000)) w fun w => R (.returned t28) w
theorem F15.eq (R : Ending → World → Prop) (w : World) (a0 a1 a2 a3 : Value) : F15 R w a0 a1 a2 a3 = shF Tryd.prog 15 [0,1,2,3,4,7,8,9,10,17,18] [a0, a1, a2, a3] R w := by kernel_rfl
theorem F15.calls {R : Ending → World → Prop} {w : World} {a0 a1 a2 a3 : Value} (h : F15 R w a0 a1 a2 a3) : Calls Tryd.prog 15 #[a0, a1, a2, a3] w R := shF_sound (F15.eq R w a0 a1 a2 a3 ▸ h)

/-- greenscreen/greenscreenref14.Fill -/
def F16 (R : Ending → World → Prop) (w : World) (a0 a1 a2 a3 : Value) : Prop :=
  opv ((Instr.box 32 a0).run Tryd.prog w) R fun t4 w =>
  opv ((Instr.box 36 a3).run Tryd.prog w) R fun t7 w =>
  opv ((Instr.alloc 32 true (.tuple #[])).run Tryd.prog w) R fun t8 w =>
  opv ((Instr.fieldAt 32 t4 0).run Tryd.prog w) R fun t13 w =>
  opv ((Instr.loadAt 23 t13).run Tryd.prog w) R fun t14 w =>
  callF Tryd.prog 35 #[t14, a1, a2] w R fun t17 w =>
  opv ((Instr.buildSlice 30 0 #[]).run Tryd.prog w) R fun t18 w =>
  opv ((Instr.fieldAt 32 t4 1).run Tryd.prog w) R fun t20 w =>
  opv ((Instr.loadAt 30 t20).run Tryd.prog w) R fun t21 w =>
  opv ((Builtin.append_ #[30, 30] 30 #[t18, t21]).run Tryd.prog w) R fun t22 w =>
  join (upd (upd (upd (upd (upd (upd (upd (ini [a0, a1, a2, a3]) 4 t4) 7 t7) 8 t8) 9 (.int .i64 0)) 10 t17) 11 t18) 11 t22) (fun j1 =>
  loop (upd (upd (upd (upd (upd (upd (upd (upd (ini [a0, a1, a2, a3]) 4 t4) 7 t7) 8 t8) 9 (.int .i64 0)) 10 t17) 11 t18) 11 t22) 12 (.int .i64 0)) w fun e2 g2 w j2 =>
  opv ((Builtin.len_ #[70] 3 #[t17]).run Tryd.prog w) R fun t25 w =>
  opv ((binOp .lss 3 (g2 12) t25).run Tryd.prog w) R fun t26 w =>
  cond t26 (drawn w fun T w =>
  qop T w (fun w K => opv ((Instr.indexAt 70 t17 (g2 12)).run Tryd.prog w) noR K) fun t32 =>
  qop T w (fun w K => opv ((Instr.loadAt 3 t32).run Tryd.prog w) noR K) fun t33 =>
  qop T w (fun w K => opv ((Instr.loadAt 36 t7).run Tryd.prog w) noR K) fun t34 =>
  qop T w (fun w K => opv ((Instr.indexAt 30 t22 t33).run Tryd.prog w) noR K) fun t35 =>
  ext w fun w =>
  opu ((Instr.storeAt 36 t35 t34).run Tryd.prog w) R fun _ w =>
  ext w fun w =>
  opv ((binOp .add 3 (g2 12) (.int .i64 1)).run Tryd.prog w) R fun t28 w =>
  j2 (upd (upd (mix [26,12] g2 e2) 26 t26) 12 t28) w)
  (j1 (upd (mix [26,12] g2 e2) 26 t26) w)) fun e1 g1 w =>
  opv ((Instr.fieldAt 32 t4 1).run Tryd.prog w) R fun t37 w =>
  opu ((Instr.storeAt 30 t37 t22).run Tryd.prog w) R fun _ w =>
  opv ((Instr.loadAt 32 t4).run Tryd.prog w) R fun t38 w =>
  opv ((Builtin.len_ #[70] 3 #[t17]).run Tryd.prog w) R fun t40 w =>
  opu ((Instr.storeAt 32 t8 t38).run Tryd.prog w) R fun _ w =>
  ldv ((Instr.loadAt 32 t8).run Tryd.prog w) w fun r0 =>
  R (.returned (.tuple #[r0, t40])) w
theorem F16.eq (R : Ending → World → Prop) (w : World) (a0 a1 a2 a3 : Value) : F16 R w a0 a1 a2 a3 = shF Tryd.prog 16 [0,1,2,3,4,7,8,9,10,11,12,26] [a0, a1, a2, a3] R w := by kernel_rfl
theorem F16.calls {R : Ending → World → Prop} {w : World} {a0 a1 a2 a3 : Value} (h : F16 R w a0 a1 a2 a3) : Calls Tryd.prog 16 #[a0, a1, a2, a3] w R := shF_sound (F16.eq R w a0 a1 a2 a3 ▸ h)

/-- (*greenscreen/plane.Plane).Clear -/
def F17 (R : Ending → World → Prop) (w : World) (a0 : Value) : Prop :=
  nilck a0 w fun t3 w =>
  opv ((Instr.fieldAt 66 t3 1).run Tryd.prog w) R fun t4 w =>
  opv ((Instr.loadAt 30 t4).run Tryd.prog w) R fun t5 w =>
  opv ((Builtin.clear_ #[30] 0 #[t5]).run Tryd.prog w) R fun _ w =>
  nilck a0 w fun t7 w =>
  opv ((Instr.fieldAt 66 t7 2).run Tryd.prog w) R fun t8 w =>
  opu ((Instr.storeAt 3 t8 (.int .i64 0)).run Tryd.prog w) R fun _ w =>
  R (.returned (.tuple #[])) w
theorem F17.eq (R : Ending → World → Prop) (w : World) (a0 : Value) : F17 R w a0 = shF Tryd.prog 17 [0] [a0] R w := by kernel_rfl
theorem F17.calls {R : Ending → World → Prop} {w : World} {a0 : Value} (h : F17 R w a0) : Calls Tryd.prog 17 #[a0] w R := shF_sound (F17.eq R w a0 ▸ h)

/-- greenscreen/greenscreenlaw14.same -/
def F18 (R : Ending → World → Prop) (w : World) (a0 a1 : Value) : Prop :=
  opv ((Instr.box 32 a1).run Tryd.prog w) R fun t3 w =>
  drawn w fun T w =>
  qop T w (fun w K => callF Tryd.prog 20 #[a0] w noR K) fun t7 =>
  qop T w (fun w K => opv ((Instr.fieldAt 32 t3 1).run Tryd.prog w) noR K) fun t8 =>
  qop T w (fun w K => opv ((Instr.loadAt 30 t8).run Tryd.prog w) noR K) fun t9 =>
  qop T w (fun w K => opv ((Builtin.len_ #[30] 3 #[t9]).run Tryd.prog w) noR K) fun t10 =>
  qop T w (fun w K => opv ((binE false .neq 3 t7 t10).run Tryd.prog w) noR K) fun t11 =>
  qop T w (fun w K => gd t11 false (fun K => K a0 w) w K) fun t13 =>
  qop T w (fun w K => gd t11 false (fun K => callF Tryd.prog 30 #[t13] w noR K) w K) fun t14 =>
  qop T w (fun w K => gd t11 false (fun K => opv ((Instr.fieldAt 32 t3 0).run Tryd.prog w) noR K) w K) fun t15 =>
  qop T w (fun w K => gd t11 false (fun K => opv ((Instr.loadAt 23 t15).run Tryd.prog w) noR K) w K) fun t16 =>
  qop T w (fun w K => gd t11 false (fun K => opv ((binE false .neq 23 t14 t16).run Tryd.prog w) noR K) w K) fun t17 =>
  qop T w (fun w K => pick t11 (.bool true) t17 w K) fun t18 =>
  qop T w (fun w K => gd t18 false (fun K => K a0 w) w K) fun t20 =>
  qop T w (fun w K => gd t18 false (fun K => callF Tryd.prog 29 #[t20] w noR K) w K) fun t21 =>
  qop T w (fun w K => gd t18 false (fun K => opv ((Instr.fieldAt 32 t3 2).run Tryd.prog w) noR K) w K) fun t22 =>
  qop T w (fun w K => gd t18 false (fun K => opv ((Instr.loadAt 3 t22).run Tryd.prog w) noR K) w K) fun t23 =>
  qop T w (fun w K => gd t18 false (fun K => opv ((binE false .neq 3 t21 t23).run Tryd.prog w) noR K) w K) fun t24 =>
  qop T w (fun w K => pick t18 (.bool true) t24 w K) fun t25 =>
  ext w fun w =>
  cond t25 (R (.returned (.bool false)) w)
  (join (upd (upd (upd (ini [a0, a1]) 3 t3) 4 (.bool false)) 25 t25) (fun j1 =>
  opv ((Instr.fieldAt 32 t3 1).run Tryd.prog w) R fun t26 w =>
  opv ((Instr.loadAt 30 t26).run Tryd.prog w) R fun t27 w =>
  opv ((Builtin.len_ #[30] 3 #[t27]).run Tryd.prog w) R fun t28 w =>
  loop (upd (upd (upd (upd (upd (ini [a0, a1]) 3 t3) 4 (.bool false)) 25 t25) 28 t28) 29 (.int .i64 0)) w fun e2 g2 w j2 =>
  opv ((binOp .lss 3 (g2 29) t28).run Tryd.prog w) R fun t30 w =>
  cond t30 (drawn w fun T w =>
  qop T w (fun w K => callF Tryd.prog 19 #[a0, (g2 29)] w noR K) fun t34 =>
  qop T w (fun w K => opv ((Instr.fieldAt 32 t3 1).run Tryd.prog w) noR K) fun t35 =>
  qop T w (fun w K => opv ((Instr.loadAt 30 t35).run Tryd.prog w) noR K) fun t36 =>
  qop T w (fun w K => opv ((Instr.indexAt 30 t36 (g2 29)).run Tryd.prog w) noR K) fun t38 =>
  qop T w (fun w K => opv ((Instr.loadAt 36 t38).run Tryd.prog w) noR K) fun t39 =>
  qop T w (fun w K => opv ((binE false .neq 36 t34 t39).run Tryd.prog w) noR K) fun t40 =>
  ext w fun w =>
  cond t40 (R (.returned (.bool false)) w)
  (opv ((binOp .add 3 (g2 29) (.int .i64 1)).run Tryd.prog w) R fun t41 w =>
  j2 (upd (upd (upd (upd (mix [30,5,40,4,29] g2 e2) 30 t30) 5 (g2 29)) 40 t40) 29 t41) w))
  (j1 (upd (mix [30,5,40,4,29] g2 e2) 30 t30) w)) fun e1 g1 w =>
  R (.returned (.bool true)) w)
theorem F18.eq (R : Ending → World → Prop) (w : World) (a0 a1 : Value) : F18 R w a0 a1 = shF Tryd.prog 18 [0,1,3,4,5,25,28,29,30,40] [a0, a1] R w := by kernel_rfl
theorem F18.calls {R : Ending → World → Prop} {w : World} {a0 a1 : Value} (h : F18 R w a0 a1) : Calls Tryd.prog 18 #[a0, a1] w R := shF_sound (F18.eq R w a0 a1 ▸ h)

/-- (*greenscreen/plane.Plane).At -/
def F19 (R : Ending → World → Prop) (w : World) (a0 a1 : Value) : Prop :=
  opv ((Instr.alloc 36 true (.tuple #[])).run Tryd.prog w) R fun t4 w =>
  callF Tryd.prog 33 #[a0, a1] w R fun t7 w =>
  opv ((Op.unary .not t7).run Tryd.prog w) R fun t8 w =>
  cond t8 (opv ((Instr.build 36 #[]).run Tryd.prog w) R fun t9 w =>
  opu ((Instr.storeAt 36 t4 t9).run Tryd.prog w) R fun _ w =>
  ldv ((Instr.loadAt 36 t4).run Tryd.prog w) w fun r0 =>
  R (.returned r0) w)
  (nilck a0 w fun t11 w =>
  opv ((Instr.fieldAt 66 t11 1).run Tryd.prog w) R fun t12 w =>
  opv ((Instr.loadAt 30 t12).run Tryd.prog w) R fun t13 w =>
  opv ((Instr.indexAt 30 t13 a1).run Tryd.prog w) R fun t15 w =>
  opv ((Instr.loadAt 36 t15).run Tryd.prog w) R fun t16 w =>
  opu ((Instr.storeAt 36 t4 t16).run Tryd.prog w) R fun _ w =>
  ldv ((Instr.loadAt 36 t4).run Tryd.prog w) w fun r0 =>
  R (.returned r0) w)
theorem F19.eq (R : Ending → World → Prop) (w : World) (a0 a1 : Value) : F19 R w a0 a1 = shF Tryd.prog 19 [0,1,4,8] [a0, a1] R w := by kernel_rfl
theorem F19.calls {R : Ending → World → Prop} {w : World} {a0 a1 : Value} (h : F19 R w a0 a1) : Calls Tryd.prog 19 #[a0, a1] w R := shF_sound (F19.eq R w a0 a1 ▸ h)

/-- (*greenscreen/plane.Plane).Len -/
def F20 (R : Ending → World → Prop) (w : World) (a0 : Value) : Prop :=
  nilck a0 w fun t4 w =>
  opv ((Instr.fieldAt 66 t4 1).run Tryd.prog w) R fun t5 w =>
  opv ((Instr.loadAt 30 t5).run Tryd.prog w) R fun t6 w =>
  opv ((Builtin.len_ #[30] 3 #[t6]).run Tryd.prog w) R fun t7 w =>
  R (.returned t7) w
theorem F20.eq (R : Ending → World → Prop) (w : World) (a0 : Value) : F20 R w a0 = shF Tryd.prog 20 [0,2] [a0] R w := by kernel_rfl
theorem F20.calls {R : Ending → World → Prop} {w : World} {a0 : Value} (h : F20 R w a0) : Calls Tryd.prog 20 #[a0] w R := shF_sound (F20.eq R w a0 ▸ h)

/-- greenscreen/greenscreenlaw14.made -/
def F21 (R : Ending → World → Prop) (w : World) (a0 a1 : Value) : Prop :=
  opv ((Instr.box 23 a0).run Tryd.prog w) R fun t2 w =>
  opv ((Instr.alloc 32 true (.tuple #[])).run Tryd.prog w) R fun t5 w =>
  opv ((Instr.loadAt 23 t2).run Tryd.prog w) R fun t14 w =>
  callF Tryd.prog 9 #[t14] w R fun t15 w =>
  opv ((Instr.extract t15 0).run Tryd.prog w) R fun t16 w =>
  opv ((Instr.extract t15 1).run Tryd.prog w) R fun t17 w =>
  opv ((Instr.loadAt 23 t2).run Tryd.prog w) R fun t19 w =>
  callF Tryd.prog 10 #[t19] w R fun t20 w =>
  opv ((Instr.extract t20 0).run Tryd.prog w) R fun t21 w =>
  opv ((Instr.extract t20 1).run Tryd.prog w) R fun t22 w =>
  opv ((Instr.alloc 32 true (.tuple #[])).run Tryd.prog w) R fun t9 w =>
  opu ((Instr.storeAt 32 t9 t21).run Tryd.prog w) R fun _ w =>
  opv ((binE true .neq 27 t17 (.int .i64 0)).run Tryd.prog w) R fun t24 w =>
  gd t24 false (fun K => K t22 w) w fun t26 w =>
  gd t24 false (fun K => opv ((binE true .neq 3 t26 (.int .i64 0)).run Tryd.prog w) R K) w fun t27 w =>
  pick t24 (.bool true) t27 w fun t28 w =>
  gd t28 false (fun K => opv ((Instr.fieldAt 32 t9 1).run Tryd.prog w) R K) w fun t30 w =>
  gd t28 false (fun K => opv ((Instr.loadAt 30 t30).run Tryd.prog w) R K) w fun t31 w =>
  gd t28 false (fun K => opv ((Builtin.len_ #[30] 3 #[t31]).run Tryd.prog w) R K) w fun t32 w =>
  gd t28 false (fun K => opv ((binOp .gtr 3 t32 (.int .i64 200)).run Tryd.prog w) R K) w fun t33 w =>
  pick t28 (.bool true) t33 w fun t34 w =>
  cond t34 (drawn w fun T w =>
  qop T w (fun w K => opv ((Instr.loadAt 32 t9).run Tryd.prog w) noR K) fun t35 =>
  ext w fun w =>
  opu ((Instr.storeAt 32 t5 t35).run Tryd.prog w) R fun _ w =>
  ext w fun w =>
  ldv ((Instr.loadAt 32 t5).run Tryd.prog w) w fun r1 =>
  R (.returned (.tuple #[(.pointer none), r1, (.bool false)])) w)
  (join (upd (upd (upd (upd (upd (upd (upd (upd (upd (ini [a0, a1]) 2 t2) 4 (.pointer none)) 5 t5) 6 (.bool false)) 7 t16) 8 t17) 9 t9) 10 t22) 34 t34) (fun j1 =>
  opv ((Builtin.len_ #[30] 3 #[a1]).run Tryd.prog w) R fun t37 w =>
  loop (upd (upd (upd (upd (upd (upd (upd (upd (upd (upd (upd (upd (ini [a0, a1]) 2 t2) 4 (.pointer none)) 5 t5) 6 (.bool false)) 7 t16) 8 t17) 9 t9) 10 t22) 34 t34) 36 a1) 37 t37) 38 (.int .i64 0)) w fun e2 g2 w j2 =>
  opv ((binOp .lss 3 (g2 38) t37).run Tryd.prog w) R fun t39 w =>
  cond t39 (join (upd (mix [39,12,11,47,38] g2 e2) 39 t39) (fun j3 =>
  opv ((Instr.indexAt 30 a1 (g2 38)).run Tryd.prog w) R fun t41 w =>
  opv ((Instr.loadAt 36 t41).run Tryd.prog w) R fun t42 w =>
  opv ((Instr.alloc 36 true (.tuple #[])).run Tryd.prog w) R fun t12 w =>
  opu ((Instr.storeAt 36 t12 t42).run Tryd.prog w) R fun _ w =>
  opv ((Instr.fieldAt 32 t9 1).run Tryd.prog w) R fun t44 w =>
  opv ((Instr.loadAt 30 t44).run Tryd.prog w) R fun t45 w =>
  opv ((Builtin.len_ #[30] 3 #[t45]).run Tryd.prog w) R fun t46 w =>
  opv ((binOp .lss 3 (g2 38) t46).run Tryd.prog w) R fun t47 w =>
  cond t47 (opv ((Instr.loadAt 36 t12).run Tryd.prog w) R fun t50 w =>
  callF Tryd.prog 11 #[t16, (g2 38), t50] w R fun t51 w =>
  opv ((Instr.fieldAt 32 t9 1).run Tryd.prog w) R fun t52 w =>
  opv ((Instr.loadAt 30 t52).run Tryd.prog w) R fun t53 w =>
  opv ((Instr.loadAt 36 t12).run Tryd.prog w) R fun t55 w =>
  opv ((Instr.indexAt 30 t53 (g2 38)).run Tryd.prog w) R fun t56 w =>
  opu ((Instr.storeAt 36 t56 t55).run Tryd.prog w) R fun _ w =>
  j3 (upd (upd (upd (upd (mix [39,12,11,47,38] g2 e2) 39 t39) 12 t12) 11 (g2 38)) 47 t47) w)
  (j3 (upd (upd (upd (upd (mix [39,12,11,47,38] g2 e2) 39 t39) 12 t12) 11 (g2 38)) 47 t47) w)) fun e3 g3 w =>
  opv ((binOp .add 3 (g2 38) (.int .i64 1)).run Tryd.prog w) R fun t57 w =>
  j2 (upd (mix [12,11,47] g3 e3) 38 t57) w)
  (j1 (upd (mix [39,12,11,47,38] g2 e2) 39 t39) w)) fun e1 g1 w =>
  drawn w fun T w =>
  qop T w (fun w K => opv ((Instr.loadAt 32 t9).run Tryd.prog w) noR K) fun t59 =>
  ext w fun w =>
  opu ((Instr.storeAt 32 t5 t59).run Tryd.prog w) R fun _ w =>
  ext w fun w =>
  ldv ((Instr.loadAt 32 t5).run Tryd.prog w) w fun r1 =>
  R (.returned (.tuple #[t16, r1, (.bool true)])) w)
theorem F21.eq (R : Ending → World → Prop) (w : World) (a0 a1 : Value) : F21 R w a0 a1 = shF Tryd.prog 21 [0,1,2,4,5,6,7,8,9,10,11,12,34,36,37,38,39,47] [a0, a1] R w := by kernel_rfl
theorem F21.calls {R : Ending → World → Prop} {w : World} {a0 a1 : Value} (h : F21 R w a0 a1) : Calls Tryd.prog 21 #[a0, a1] w R := shF_sound (F21.eq R w a0 a1 ▸ h)

/-- (*greenscreen/plane.Plane).Rows -/
def F22 (R : Ending → World → Prop) (w : World) (a0 a1 : Value) : Prop :=
  join (upd (upd (ini [a0, a1]) 4 (.slice none 0 0)) 5 (.slice none 0 0)) (fun j1 =>
  nilck a0 w fun t8 w =>
  opv ((Instr.fieldAt 66 t8 0).run Tryd.prog w) R fun t9 w =>
  opv ((Instr.fieldAt 23 t9 0).run Tryd.prog w) R fun t10 w =>
  opv ((Instr.loadAt 3 t10).run Tryd.prog w) R fun t11 w =>
  loop (upd (upd (upd (upd (ini [a0, a1]) 4 (.slice none 0 0)) 5 (.slice none 0 0)) 11 t11) 12 (.int .i64 0)) w fun e2 g2 w j2 =>
  opv ((binOp .lss 3 (g2 12) t11).run Tryd.prog w) R fun t13 w =>
  cond t13 (drawn w fun T w =>
  qop T w (fun w K => nilck a0 w K) fun t20 =>
  qop T w (fun w K => opv ((Instr.fieldAt 66 t20 0).run Tryd.prog w) noR K) fun t21 =>
  qop T w (fun w K => opv ((Instr.fieldAt 23 t21 1).run Tryd.prog w) noR K) fun t22 =>
  qop T w (fun w K => opv ((Instr.loadAt 3 t22).run Tryd.prog w) noR K) fun t23 =>
  qop T w (fun w K => opv ((binOp .mul 3 (g2 12) t23).run Tryd.prog w) noR K) fun t24 =>
  qop T w (fun w K => nilck a0 w K) fun t26 =>
  qop T w (fun w K => opv ((Instr.fieldAt 66 t26 0).run Tryd.prog w) noR K) fun t27 =>
  qop T w (fun w K => opv ((Instr.fieldAt 23 t27 1).run Tryd.prog w) noR K) fun t28 =>
  qop T w (fun w K => opv ((Instr.loadAt 3 t28).run Tryd.prog w) noR K) fun t29 =>
  qop T w (fun w K => callF Tryd.prog 24 #[a0, a1, t24, t29] w noR K) fun t30 =>
  ext w fun w =>
  lop T w (fun w K => opv ((Instr.buildSlice 51 1 #[(0, t30)]).run Tryd.prog w) R K) fun t31 w =>
  ext w fun w =>
  lop T w (fun w K => opv ((Builtin.append_ #[51, 51] 51 #[(g2 5), t31]).run Tryd.prog w) R K) fun t32 w =>
  ext w fun w =>
  opv ((binOp .add 3 (g2 12) (.int .i64 1)).run Tryd.prog w) R fun t33 w =>
  j2 (upd (upd (upd (upd (mix [13,6,5,12] g2 e2) 13 t13) 6 (g2 12)) 5 t32) 12 t33) w)
  (j1 (upd (mix [13,6,5,12] g2 e2) 13 t13) w)) fun e1 g1 w =>
  R (.returned (g1 5)) w
theorem F22.eq (R : Ending → World → Prop) (w : World) (a0 a1 : Value) : F22 R w a0 a1 = shF Tryd.prog 22 [0,1,4,5,6,11,12,13] [a0, a1] R w := by kernel_rfl
theorem F22.calls {R : Ending → World → Prop} {w : World} {a0 a1 : Value} (h : F22 R w a0 a1) : Calls Tryd.prog 22 #[a0, a1] w R := shF_sound (F22.eq R w a0 a1 ▸ h)

/-- greenscreen/greenscreenref14.Text -/
def F23 (R : Ending → World → Prop) (w : World) (a0 a1 a2 a3 : Value) : Prop :=
  opv ((Instr.box 32 a0).run Tryd.prog w) R fun t4 w =>
  opv ((Instr.loadAt 32 t4).run Tryd.prog w) R fun t11 w =>
  callF Tryd.prog 12 #[t11, a2] w R fun t13 w =>
  opv ((Op.unary .not t13).run Tryd.prog w) R fun t14 w =>
  cond t14 (R (.returned (.string ⟨#[]⟩)) w)
  (opv ((Instr.fieldAt 32 t4 1).run Tryd.prog w) R fun t17 w =>
  opv ((Instr.loadAt 30 t17).run Tryd.prog w) R fun t18 w =>
  opv ((Builtin.len_ #[30] 3 #[t18]).run Tryd.prog w) R fun t19 w =>
  callF Tryd.prog 36 #[a3, (.int .i64 0), t19] w R fun t20 w =>
  join (upd (upd (upd (upd (upd (ini [a0, a1, a2, a3]) 4 t4) 8 (.string ⟨#[]⟩)) 9 (.string ⟨#[]⟩)) 14 t14) 3 t20) (fun j1 =>
  loop (upd (upd (upd (upd (upd (upd (ini [a0, a1, a2, a3]) 4 t4) 8 (.string ⟨#[]⟩)) 9 (.string ⟨#[]⟩)) 14 t14) 3 t20) 10 (.int .i64 0)) w fun e2 g2 w j2 =>
  opv ((binOp .lss 3 (g2 10) t20).run Tryd.prog w) R fun t23 w =>
  cond t23 (drawn w fun T w =>
  qop T w (fun w K => opv ((Instr.fieldAt 32 t4 1).run Tryd.prog w) noR K) fun t28 =>
  qop T w (fun w K => opv ((Instr.loadAt 30 t28).run Tryd.prog w) noR K) fun t29 =>
  qop T w (fun w K => opv ((binOp .add 3 a2 (g2 10)).run Tryd.prog w) noR K) fun t32 =>
  qop T w (fun w K => opv ((Instr.fieldAt 32 t4 1).run Tryd.prog w) noR K) fun t33 =>
  qop T w (fun w K => opv ((Instr.loadAt 30 t33).run Tryd.prog w) noR K) fun t34 =>
  qop T w (fun w K => opv ((Builtin.len_ #[30] 3 #[t34]).run Tryd.prog w) noR K) fun t35 =>
  qop T w (fun w K => opv ((binOp .rem 3 t32 t35).run Tryd.prog w) noR K) fun t36 =>
  qop T w (fun w K => opv ((Instr.indexAt 30 t29 t36).run Tryd.prog w) noR K) fun t37 =>
  qop T w (fun w K => opv ((Instr.loadAt 36 t37).run Tryd.prog w) noR K) fun t38 =>
  qop T w (fun w K => callF Tryd.prog 37 #[a1, t38] w noR K) fun t39 =>
  qop T w (fun w K => opv ((binOp .add 9 (g2 9) t39).run Tryd.prog w) noR K) fun t40 =>
  ext w fun w =>
  opv ((binOp .add 3 (g2 10) (.int .i64 1)).run Tryd.prog w) R fun t25 w =>
  j2 (upd (upd (upd (mix [23,9,10] g2 e2) 23 t23) 9 t40) 10 t25) w)
  (j1 (upd (mix [23,9,10] g2 e2) 23 t23) w)) fun e1 g1 w =>
  R (.returned (g1 9)) w)
theorem F23.eq (R : Ending → World → Prop) (w : World) (a0 a1 a2 a3 : Value) : F23 R w a0 a1 a2 a3 = shF Tryd.prog 23 [0,1,2,3,4,8,9,10,14,23] [a0, a1, a2, a3] R w := by kernel_rfl
theorem F23.calls {R : Ending → World → Prop} {w : World} {a0 a1 a2 a3 : Value} (h : F23 R w a0 a1 a2 a3) : Calls Tryd.prog 23 #[a0, a1, a2, a3] w R := shF_sound (F23.eq R w a0 a1 a2 a3 ▸ h)

/-- (*greenscreen/plane.Plane).Text -/
def F24 (R : Ending → World → Prop) (w : World) (a0 a1 a2 a3 : Value) : Prop :=
  callF Tryd.prog 33 #[a0, a2] w R fun t11 w =>
  opv ((Op.unary .not t11).run Tryd.prog w) R fun t12 w =>
  cond t12 (R (.returned (.string ⟨#[]⟩)) w)
  (opv ((Builtin.max_ #[3, 3] 3 #[a3, (.int .i64 0)]).run Tryd.prog w) R fun t17 w =>
  nilck a0 w fun t19 w =>
  opv ((Instr.fieldAt 66 t19 1).run Tryd.prog w) R fun t20 w =>
  opv ((Instr.loadAt 30 t20).run Tryd.prog w) R fun t21 w =>
  opv ((Builtin.len_ #[30] 3 #[t21]).run Tryd.prog w) R fun t22 w =>
  opv ((Builtin.min_ #[3, 3] 3 #[t17, t22]).run Tryd.prog w) R fun t23 w =>
  callF Tryd.prog 38 #[a0, a1, a2, t23] w R fun t24 w =>
  opv ((convert 74 9 t24).run Tryd.prog w) R fun t25 w =>
  R (.returned t25) w)
theorem F24.eq (R : Ending → World → Prop) (w : World) (a0 a1 a2 a3 : Value) : F24 R w a0 a1 a2 a3 = shF Tryd.prog 24 [0,1,2,3,8,12] [a0, a1, a2, a3] R w := by kernel_rfl
theorem F24.calls {R : Ending → World → Prop} {w : World} {a0 a1 a2 a3 : Value} (h : F24 R w a0 a1 a2 a3) : Calls Tryd.prog 24 #[a0, a1, a2, a3] w R := shF_sound (F24.eq R w a0 a1 a2 a3 ▸ h)

/-- (*greenscreen/plane.Plane).Find -/
def F25 (R : Ending → World → Prop) (w : World) (a0 a1 a2 : Value) : Prop :=
  nilck a0 w fun t14 w =>
  opv ((Instr.fieldAt 66 t14 1).run Tryd.prog w) R fun t15 w =>
  opv ((Instr.loadAt 30 t15).run Tryd.prog w) R fun t16 w =>
  opv ((Builtin.len_ #[30] 3 #[t16]).run Tryd.prog w) R fun t17 w =>
  callF Tryd.prog 38 #[a0, a1, (.int .i64 0), t17] w R fun t18 w =>
  opv ((convert 9 74 a2).run Tryd.prog w) R fun t20 w =>
  opv ((Builtin.len_ #[74] 3 #[t20]).run Tryd.prog w) R fun t22 w =>
  opv ((binE true .eql 3 t22 (.int .i64 0)).run Tryd.prog w) R fun t23 w =>
  cond t23 (R (.returned (.int .i64 0)) w)
  (opv ((Builtin.len_ #[74] 3 #[t20]).run Tryd.prog w) R fun t25 w =>
  opv ((Builtin.len_ #[74] 3 #[t18]).run Tryd.prog w) R fun t27 w =>
  opv ((binOp .gtr 3 t25 t27).run Tryd.prog w) R fun t28 w =>
  gd t28 false (fun K => K a2 w) w fun t30 w =>
  gd t28 false (fun K => callF Tryd.prog 39 #[t30, (.string ⟨#[]⟩)] w R K) w fun t31 w =>
  gd t28 false (fun K => K a2 w) w fun t32 w =>
  gd t28 false (fun K => opv ((binE false .neq 9 t31 t32).run Tryd.prog w) R K) w fun t33 w =>
  pick t28 (.bool true) t33 w fun t34 w =>
  cond t34 (R (.returned (.int .i64 (-1))) w)
  (opv ((Builtin.append_ #[74, 74] 74 #[t18, t18]).run Tryd.prog w) R fun t37 w =>
  join (upd (upd (upd (upd (upd (upd (ini [a0, a1, a2]) 6 (.int .i64 0)) 7 t18) 8 t20) 23 t23) 34 t34) 9 t37) (fun j1 =>
  opv ((Builtin.len_ #[74] 3 #[t18]).run Tryd.prog w) R fun t39 w =>
  loop (upd (upd (upd (upd (upd (upd (upd (upd (ini [a0, a1, a2]) 6 (.int .i64 0)) 7 t18) 8 t20) 23 t23) 34 t34) 9 t37) 39 t39) 40 (.int .i64 0)) w fun e2 g2 w j2 =>
  opv ((binOp .lss 3 (g2 40) t39).run Tryd.prog w) R fun t41 w =>
  cond t41 (opv ((Builtin.len_ #[74] 3 #[t20]).run Tryd.prog w) R fun t47 w =>
  opv ((binOp .add 3 (g2 40) t47).run Tryd.prog w) R fun t48 w =>
  opv ((Instr.sliceAt 74 t37 (some (g2 40)) (some t48) none).run Tryd.prog w) R fun t49 w =>
  callF Tryd.prog 40 #[t49, t20] w R fun t51 w =>
  cond t51 (R (.returned (g2 40)) w)
  (opv ((binOp .add 3 (g2 40) (.int .i64 1)).run Tryd.prog w) R fun t53 w =>
  j2 (upd (upd (upd (upd (mix [41,10,51,6,40] g2 e2) 41 t41) 10 (g2 40)) 51 t51) 40 t53) w))
  (j1 (upd (mix [41,10,51,6,40] g2 e2) 41 t41) w)) fun e1 g1 w =>
  R (.returned (.int .i64 (-1))) w))
theorem F25.eq (R : Ending → World → Prop) (w : World) (a0 a1 a2 : Value) : F25 R w a0 a1 a2 = shF Tryd.prog 25 [0,1,2,6,7,8,9,10,23,34,39,40,41,51] [a0, a1, a2] R w := by kernel_rfl
theorem F25.calls {R : Ending → World → Prop} {w : World} {a0 a1 a2 : Value} (h : F25 R w a0 a1 a2) : Calls Tryd.prog 25 #[a0, a1, a2] w R := shF_sound (F25.eq R w a0 a1 a2 ▸ h)

/-- greenscreen/greenscreenref14.Find -/
def F26 (R : Ending → World → Prop) (w : World) (a0 a1 a2 : Value) : Prop :=
  opv ((Instr.box 32 a0).run Tryd.prog w) R fun t3 w =>
  join (upd (upd (upd (ini [a0, a1, a2]) 3 t3) 6 (.int .i64 0)) 7 (.int .i64 0)) (fun j1 =>
  opv ((Instr.range 9 a2).run Tryd.prog w) R fun t10 w =>
  loop (upd (upd (upd (upd (ini [a0, a1, a2]) 3 t3) 6 (.int .i64 0)) 7 (.int .i64 0)) 10 t10) w fun e2 g2 w j2 =>
  opv ((Instr.next t10 true 0).run Tryd.prog w) R fun t11 w =>
  opv ((Instr.extract t11 0).run Tryd.prog w) R fun t12 w =>
  cond t12 (opv ((binOp .add 3 (g2 7) (.int .i64 1)).run Tryd.prog w) R fun t14 w =>
  j2 (upd (upd (mix [12,7] g2 e2) 12 t12) 7 t14) w)
  (j1 (upd (mix [12,7] g2 e2) 12 t12) w)) fun e1 g1 w =>
  opv ((binE true .eql 3 (g1 7) (.int .i64 0)).run Tryd.prog w) R fun t16 w =>
  cond t16 (R (.returned (.int .i64 0)) w)
  (opv ((Instr.fieldAt 32 t3 1).run Tryd.prog w) R fun t18 w =>
  opv ((Instr.loadAt 30 t18).run Tryd.prog w) R fun t19 w =>
  opv ((Builtin.len_ #[30] 3 #[t19]).run Tryd.prog w) R fun t20 w =>
  opv ((binOp .gtr 3 (g1 7) t20).run Tryd.prog w) R fun t21 w =>
  cond t21 (R (.returned (.int .i64 (-1))) w)
  (join (upd (upd (mix [10,12,7] g1 e1) 16 t16) 21 t21) (fun j3 =>
  loop (upd (upd (upd (mix [10,12,7] g1 e1) 16 t16) 21 t21) 8 (.int .i64 0)) w fun e4 g4 w j4 =>
  opv ((Instr.fieldAt 32 t3 1).run Tryd.prog w) R fun t23 w =>
  opv ((Instr.loadAt 30 t23).run Tryd.prog w) R fun t24 w =>
  opv ((Builtin.len_ #[30] 3 #[t24]).run Tryd.prog w) R fun t25 w =>
  opv ((binOp .lss 3 (g4 8) t25).run Tryd.prog w) R fun t26 w =>
  cond t26 (opv ((Instr.loadAt 32 t3).run Tryd.prog w) R fun t29 w =>
  callF Tryd.prog 23 #[t29, a1, (g4 8), (g1 7)] w R fun t33 w =>
  opv ((binE false .eql 9 t33 a2).run Tryd.prog w) R fun t35 w =>
  cond t35 (R (.returned (g4 8)) w)
  (opv ((binOp .add 3 (g4 8) (.int .i64 1)).run Tryd.prog w) R fun t28 w =>
  j4 (upd (upd (upd (mix [26,35,6,8] g4 e4) 26 t26) 35 t35) 8 t28) w))
  (j3 (upd (mix [26,35,6,8] g4 e4) 26 t26) w)) fun e3 g3 w =>
  R (.returned (.int .i64 (-1))) w))
theorem F26.eq (R : Ending → World → Prop) (w : World) (a0 a1 a2 : Value) : F26 R w a0 a1 a2 = shF Tryd.prog 26 [0,1,2,3,6,7,8,10,12,16,21,26,35] [a0, a1, a2] R w := by kernel_rfl
theorem F26.calls {R : Ending → World → Prop} {w : World} {a0 a1 a2 : Value} (h : F26 R w a0 a1 a2) : Calls Tryd.prog 26 #[a0, a1, a2] w R := shF_sound (F26.eq R w a0 a1 a2 ▸ h)

/-- (*greenscreen/plane.Plane).Clone -/
def F27 (R : Ending → World → Prop) (w : World) (a0 : Value) : Prop :=
  drawn w fun T w =>
  qop T w (fun w K => nilck a0 w K) fun t4 =>
  qop T w (fun w K => opv ((Instr.fieldAt 66 t4 0).run Tryd.prog w) noR K) fun t5 =>
  qop T w (fun w K => opv ((Instr.loadAt 23 t5).run Tryd.prog w) noR K) fun t6 =>
  qop T w (fun w K => nilck a0 w K) fun t8 =>
  qop T w (fun w K => opv ((Instr.fieldAt 66 t8 1).run Tryd.prog w) noR K) fun t9 =>
  qop T w (fun w K => opv ((Instr.loadAt 30 t9).run Tryd.prog w) noR K) fun t10 =>
  qop T w (fun w K => nilck a0 w K) fun t13 =>
  qop T w (fun w K => opv ((Instr.fieldAt 66 t13 2).run Tryd.prog w) noR K) fun t14 =>
  qop T w (fun w K => opv ((Instr.loadAt 3 t14).run Tryd.prog w) noR K) fun t15 =>
  ext w fun w =>
  lop T w (fun w K => callF Tryd.prog 41 #[t10] w R K) fun t11 w =>
  qop T w (fun w K => opv ((Instr.build 66 #[(0, t6), (1, t11), (2, t15)]).run Tryd.prog w) noR K) fun t16 =>
  ext w fun w =>
  lop T w (fun w K => opv ((Instr.box 66 t16).run Tryd.prog w) R K) fun t17 w =>
  ext w fun w =>
  R (.returned t17) w
theorem F27.eq (R : Ending → World → Prop) (w : World) (a0 : Value) : F27 R w a0 = shF Tryd.prog 27 [0,2] [a0] R w := by kernel_rfl
theorem F27.calls {R : Ending → World → Prop} {w : World} {a0 : Value} (h : F27 R w a0) : Calls Tryd.prog 27 #[a0] w R := shF_sound (F27.eq R w a0 ▸ h)

/-- greenscreen/plane.Same -/
def F28 (R : Ending → World → Prop) (w : World) (a0 a1 : Value) : Prop :=
  drawn w fun T w =>
  qop T w (fun w K => nilck a0 w K) fun t6 =>
  qop T w (fun w K => opv ((Instr.fieldAt 66 t6 0).run Tryd.prog w) noR K) fun t7 =>
  qop T w (fun w K => opv ((Instr.loadAt 23 t7).run Tryd.prog w) noR K) fun t8 =>
  qop T w (fun w K => nilck a1 w K) fun t10 =>
  qop T w (fun w K => opv ((Instr.fieldAt 66 t10 0).run Tryd.prog w) noR K) fun t11 =>
  qop T w (fun w K => opv ((Instr.loadAt 23 t11).run Tryd.prog w) noR K) fun t12 =>
  qop T w (fun w K => opv ((binE false .eql 23 t8 t12).run Tryd.prog w) noR K) fun t13 =>
  qop T w (fun w K => gd t13 true (fun K => K a0 w) w K) fun t15 =>
  qop T w (fun w K => gd t13 true (fun K => nilck t15 w K) w K) fun t16 =>
  qop T w (fun w K => gd t13 true (fun K => opv ((Instr.fieldAt 66 t16 2).run Tryd.prog w) noR K) w K) fun t17 =>
  qop T w (fun w K => gd t13 true (fun K => opv ((Instr.loadAt 3 t17).run Tryd.prog w) noR K) w K) fun t18 =>
  qop T w (fun w K => gd t13 true (fun K => K a1 w) w K) fun t19 =>
  qop T w (fun w K => gd t13 true (fun K => nilck t19 w K) w K) fun t20 =>
  qop T w (fun w K => gd t13 true (fun K => opv ((Instr.fieldAt 66 t20 2).run Tryd.prog w) noR K) w K) fun t21 =>
  qop T w (fun w K => gd t13 true (fun K => opv ((Instr.loadAt 3 t21).run Tryd.prog w) noR K) w K) fun t22 =>
  qop T w (fun w K => gd t13 true (fun K => opv ((binE false .eql 3 t18 t22).run Tryd.prog w) noR K) w K) fun t23 =>
  qop T w (fun w K => pick t13 t23 (.bool false) w K) fun t24 =>
  qop T w (fun w K => gd t24 true (fun K => K a0 w) w K) fun t26 =>
  qop T w (fun w K => gd t24 true (fun K => nilck t26 w K) w K) fun t27 =>
  qop T w (fun w K => gd t24 true (fun K => opv ((Instr.fieldAt 66 t27 1).run Tryd.prog w) noR K) w K) fun t28 =>
  qop T w (fun w K => gd t24 true (fun K => opv ((Instr.loadAt 30 t28).run Tryd.prog w) noR K) w K) fun t29 =>
  qop T w (fun w K => gd t24 true (fun K => K a1 w) w K) fun t30 =>
  qop T w (fun w K => gd t24 true (fun K => nilck t30 w K) w K) fun t31 =>
  qop T w (fun w K => gd t24 true (fun K => opv ((Instr.fieldAt 66 t31 1).run Tryd.prog w) noR K) w K) fun t32 =>
  qop T w (fun w K => gd t24 true (fun K => opv ((Instr.loadAt 30 t32).run Tryd.prog w) noR K) w K) fun t33 =>
  qop T w (fun w K => gd t24 true (fun K => callF Tryd.prog 42 #[t29, t33] w noR K) w K) fun t34 =>
  qop T w (fun w K => pick t24 t34 (.bool false) w K) fun t35 =>
  ext w fun w =>
  R (.returned t35) w
theorem F28.eq (R : Ending → World → Prop) (w : World) (a0 a1 : Value) : F28 R w a0 a1 = shF Tryd.prog 28 [0,1,4] [a0, a1] R w := by kernel_rfl
theorem F28.calls {R : Ending → World → Prop} {w : World} {a0 a1 : Value} (h : F28 R w a0 a1) : Calls Tryd.prog 28 #[a0, a1] w R := shF_sound (F28.eq R w a0 a1 ▸ h)

/-- (*greenscreen/plane.Plane).Cursor -/
def F29 (R : Ending → World → Prop) (w : World) (a0 : Value) : Prop :=
  nilck a0 w fun t4 w =>
  opv ((Instr.fieldAt 66 t4 2).run Tryd.prog w) R fun t5 w =>
  opv ((Instr.loadAt 3 t5).run Tryd.prog w) R fun t6 w =>
  R (.returned t6) w
theorem F29.eq (R : Ending → World → Prop) (w : World) (a0 : Value) : F29 R w a0 = shF Tryd.prog 29 [0,2] [a0] R w := by kernel_rfl
theorem F29.calls {R : Ending → World → Prop} {w : World} {a0 : Value} (h : F29 R w a0) : Calls Tryd.prog 29 #[a0] w R := shF_sound (F29.eq R w a0 ▸ h)

/-- (*greenscreen/plane.Plane).Size -/
def F30 (R : Ending → World → Prop) (w : World) (a0 : Value) : Prop :=
  opv ((Instr.alloc 23 true (.tuple #[])).run Tryd.prog w) R fun t2 w =>
  nilck a0 w fun t4 w =>
  opv ((Instr.fieldAt 66 t4 0).run Tryd.prog w) R fun t5 w =>
  opv ((Instr.loadAt 23 t5).run Tryd.prog w) R fun t6 w =>
  opu ((Instr.storeAt 23 t2 t6).run Tryd.prog w) R fun _ w =>
  ldv ((Instr.loadAt 23 t2).run Tryd.prog w) w fun r0 =>
  R (.returned r0) w
theorem F30.eq (R : Ending → World → Prop) (w : World) (a0 : Value) : F30 R w a0 = shF Tryd.prog 30 [0,2] [a0] R w := by kernel_rfl
theorem F30.calls {R : Ending → World → Prop} {w : World} {a0 : Value} (h : F30 R w a0) : Calls Tryd.prog 30 #[a0] w R := shF_sound (F30.eq R w a0 ▸ h)

/-- greenscreen/addr.Cells -/
def F31 (R : Ending → World → Prop) (w : World) (a0 : Value) : Prop :=
  opv ((Instr.box 23 a0).run Tryd.prog w) R fun t1 w =>
  opv ((Instr.fieldAt 23 t1 0).run Tryd.prog w) R fun t4 w =>
  opv ((Instr.loadAt 3 t4).run Tryd.prog w) R fun t5 w =>
  opv ((Instr.fieldAt 23 t1 1).run Tryd.prog w) R fun t6 w =>
  opv ((Instr.loadAt 3 t6).run Tryd.prog w) R fun t7 w =>
  opv ((binOp .mul 3 t5 t7).run Tryd.prog w) R fun t8 w =>
  opv ((Instr.fieldAt 23 t1 0).run Tryd.prog w) R fun t9 w =>
  opv ((Instr.loadAt 3 t9).run Tryd.prog w) R fun t10 w =>
  opv ((binOp .lss 3 t10 (.int .i64 1)).run Tryd.prog w) R fun t11 w =>
  gd t11 false (fun K => opv ((Instr.fieldAt 23 t1 0).run Tryd.prog w) R K) w fun t13 w =>
  gd t11 false (fun K => opv ((Instr.loadAt 3 t13).run Tryd.prog w) R K) w fun t14 w =>
  gd t11 false (fun K => opv ((binOp .gtr 3 t14 (.int .i64 43)).run Tryd.prog w) R K) w fun t15 w =>
  pick t11 (.bool true) t15 w fun t16 w =>
  gd t16 false (fun K => opv ((Instr.fieldAt 23 t1 1).run Tryd.prog w) R K) w fun t18 w =>
  gd t16 false (fun K => opv ((Instr.loadAt 3 t18).run Tryd.prog w) R K) w fun t19 w =>
  gd t16 false (fun K => opv ((binOp .lss 3 t19 (.int .i64 1)).run Tryd.prog w) R K) w fun t20 w =>
  pick t16 (.bool true) t20 w fun t21 w =>
  gd t21 false (fun K => opv ((Instr.fieldAt 23 t1 1).run Tryd.prog w) R K) w fun t23 w =>
  gd t21 false (fun K => opv ((Instr.loadAt 3 t23).run Tryd.prog w) R K) w fun t24 w =>
  gd t21 false (fun K => opv ((binOp .gtr 3 t24 (.int .i64 132)).run Tryd.prog w) R K) w fun t25 w =>
  pick t21 (.bool true) t25 w fun t26 w =>
  gd t26 false (fun K => K t8 w) w fun t28 w =>
  gd t26 false (fun K => opv ((binOp .gtr 3 t28 (.int .i64 4096)).run Tryd.prog w) R K) w fun t29 w =>
  pick t26 (.bool true) t29 w fun t30 w =>
  cond t30 (R (.returned (.int .i64 0)) w)
  (R (.returned t8) w)
theorem F31.eq (R : Ending → World → Prop) (w : World) (a0 : Value) : F31 R w a0 = shF Tryd.prog 31 [0,1,2,3,30] [a0] R w := by kernel_rfl
theorem F31.calls {R : Ending → World → Prop} {w : World} {a0 : Value} (h : F31 R w a0) : Calls Tryd.prog 31 #[a0] w R := shF_sound (F31.eq R w a0 ▸ h)

/-- greenscreen/greenscreenref02.Cells -/
def F32 (R : Ending → World → Prop) (w : World) (a0 : Value) : Prop :=
  opv ((Instr.box 23 a0).run Tryd.prog w) R fun t1 w =>
  opv ((Instr.fieldAt 23 t1 0).run Tryd.prog w) R fun t3 w =>
  opv ((Instr.loadAt 3 t3).run Tryd.prog w) R fun t4 w =>
  opv ((binOp .lss 3 t4 (.int .i64 1)).run Tryd.prog w) R fun t5 w =>
  gd t5 false (fun K => opv ((Instr.fieldAt 23 t1 0).run Tryd.prog w) R K) w fun t7 w =>
  gd t5 false (fun K => opv ((Instr.loadAt 3 t7).run Tryd.prog w) R K) w fun t8 w =>
  gd t5 false (fun K => opv ((binOp .gtr 3 t8 (.int .i64 43)).run Tryd.prog w) R K) w fun t9 w =>
  pick t5 (.bool true) t9 w fun t10 w =>
  gd t10 false (fun K => opv ((Instr.fieldAt 23 t1 1).run Tryd.prog w) R K) w fun t12 w =>
  gd t10 false (fun K => opv ((Instr.loadAt 3 t12).run Tryd.prog w) R K) w fun t13 w =>
  gd t10 false (fun K => opv ((binOp .lss 3 t13 (.int .i64 1)).run Tryd.prog w) R K) w fun t14 w =>
  pick t10 (.bool true) t14 w fun t15 w =>
  gd t15 false (fun K => opv ((Instr.fieldAt 23 t1 1).run Tryd.prog w) R K) w fun t17 w =>
  gd t15 false (fun K => opv ((Instr.loadAt 3 t17).run Tryd.prog w) R K) w fun t18 w =>
  gd t15 false (fun K => opv ((binOp .gtr 3 t18 (.int .i64 132)).run Tryd.prog w) R K) w fun t19 w =>
  pick t15 (.bool true) t19 w fun t20 w =>
  gd t20 false (fun K => opv ((Instr.fieldAt 23 t1 0).run Tryd.prog w) R K) w fun t22 w =>
  gd t20 false (fun K => opv ((Instr.loadAt 3 t22).run Tryd.prog w) R K) w fun t23 w =>
  gd t20 false (fun K => opv ((Instr.fieldAt 23 t1 1).run Tryd.prog w) R K) w fun t24 w =>
  gd t20 false (fun K => opv ((Instr.loadAt 3 t24).run Tryd.prog w) R K) w fun t25 w =>
  gd t20 false (fun K => opv ((binOp .mul 3 t23 t25).run Tryd.prog w) R K) w fun t26 w =>
  gd t20 false (fun K => opv ((binOp .gtr 3 t26 (.int .i64 4096)).run Tryd.prog w) R K) w fun t27 w =>
  pick t20 (.bool true) t27 w fun t28 w =>
  cond t28 (R (.returned (.int .i64 0)) w)
  (opv ((Instr.fieldAt 23 t1 0).run Tryd.prog w) R fun t29 w =>
  opv ((Instr.loadAt 3 t29).run Tryd.prog w) R fun t30 w =>
  opv ((Instr.fieldAt 23 t1 1).run Tryd.prog w) R fun t31 w =>
  opv ((Instr.loadAt 3 t31).run Tryd.prog w) R fun t32 w =>
  opv ((binOp .mul 3 t30 t32).run Tryd.prog w) R fun t33 w =>
  R (.returned t33) w)
theorem F32.eq (R : Ending → World → Prop) (w : World) (a0 : Value) : F32 R w a0 = shF Tryd.prog 32 [0,1,2,28] [a0] R w := by kernel_rfl
theorem F32.calls {R : Ending → World → Prop} {w : World} {a0 : Value} (h : F32 R w a0) : Calls Tryd.prog 32 #[a0] w R := shF_sound (F32.eq R w a0 ▸ h)

/-- (*greenscreen/plane.Plane).has -/
def F33 (R : Ending → World → Prop) (w : World) (a0 a1 : Value) : Prop :=
  opv ((binOp .geq 3 a1 (.int .i64 0)).run Tryd.prog w) R fun t6 w =>
  gd t6 true (fun K => K a1 w) w fun t8 w =>
  gd t6 true (fun K => K a0 w) w fun t9 w =>
  gd t6 true (fun K => nilck t9 w K) w fun t10 w =>
  gd t6 true (fun K => opv ((Instr.fieldAt 66 t10 1).run Tryd.prog w) R K) w fun t11 w =>
  gd t6 true (fun K => opv ((Instr.loadAt 30 t11).run Tryd.prog w) R K) w fun t12 w =>
  gd t6 true (fun K => opv ((Builtin.len_ #[30] 3 #[t12]).run Tryd.prog w) R K) w fun t13 w =>
  gd t6 true (fun K => opv ((binOp .lss 3 t8 t13).run Tryd.prog w) R K) w fun t14 w =>
  pick t6 t14 (.bool false) w fun t15 w =>
  R (.returned t15) w
theorem F33.eq (R : Ending → World → Prop) (w : World) (a0 a1 : Value) : F33 R w a0 a1 = shF Tryd.prog 33 [0,1,4] [a0, a1] R w := by kernel_rfl
theorem F33.calls {R : Ending → World → Prop} {w : World} {a0 a1 : Value} (h : F33 R w a0 a1) : Calls Tryd.prog 33 #[a0, a1] w R := shF_sound (F33.eq R w a0 a1 ▸ h)

/-- greenscreen/addr.Between -/
def F34 (R : Ending → World → Prop) (w : World) (a0 a1 a2 : Value) : Prop :=
  opv ((Instr.box 23 a0).run Tryd.prog w) R fun t3 w =>
  opv ((Instr.box 3 a1).run Tryd.prog w) R fun t4 w =>
  opv ((Instr.box 3 a2).run Tryd.prog w) R fun t5 w =>
  opv ((Instr.makeFunc (.func 43) #[] #[t3, t4, t5]).run Tryd.prog w) R fun t7 w =>
  R (.returned t7) w
theorem F34.eq (R : Ending → World → Prop) (w : World) (a0 a1 a2 : Value) : F34 R w a0 a1 a2 = shF Tryd.prog 34 [0,1,2,3,4,5,6] [a0, a1, a2] R w := by kernel_rfl
theorem F34.calls {R : Ending → World → Prop} {w : World} {a0 a1 a2 : Value} (h : F34 R w a0 a1 a2) : Calls Tryd.prog 34 #[a0, a1, a2] w R := shF_sound (F34.eq R w a0 a1 a2 ▸ h)

/-- greenscreen/greenscreenref02.Between -/
def F35 (R : Ending → World → Prop) (w : World) (a0 a1 a2 : Value) : Prop :=
  opv ((Instr.box 23 a0).run Tryd.prog w) R fun t3 w =>
  opv ((Instr.buildSlice 70 0 #[]).run Tryd.prog w) R fun t11 w =>
  opv ((Instr.loadAt 23 t3).run Tryd.prog w) R fun t12 w =>
  callF Tryd.prog 32 #[t12] w R fun t13 w =>
  opv ((binOp .lss 3 a1 (.int .i64 0)).run Tryd.prog w) R fun t15 w =>
  gd t15 false (fun K => K a1 w) w fun t17 w =>
  gd t15 false (fun K => K t13 w) w fun t18 w =>
  gd t15 false (fun K => opv ((binOp .geq 3 t17 t18).run Tryd.prog w) R K) w fun t19 w =>
  pick t15 (.bool true) t19 w fun t20 w =>
  gd t20 false (fun K => K a2 w) w fun t22 w =>
  gd t20 false (fun K => opv ((binOp .lss 3 t22 (.int .i64 0)).run Tryd.prog w) R K) w fun t23 w =>
  pick t20 (.bool true) t23 w fun t24 w =>
  gd t24 false (fun K => K a2 w) w fun t26 w =>
  gd t24 false (fun K => K t13 w) w fun t27 w =>
  gd t24 false (fun K => opv ((binOp .geq 3 t26 t27).run Tryd.prog w) R K) w fun t28 w =>
  pick t24 (.bool true) t28 w fun t29 w =>
  cond t29 (R (.returned t11) w)
  (opv ((binOp .sub 3 a2 a1).run Tryd.prog w) R fun t33 w =>
  join (upd (upd (upd (upd (upd (upd (ini [a0, a1, a2]) 3 t3) 6 (.slice none 0 0)) 7 t11) 8 t13) 29 t29) 9 t33) (fun j1 =>
  opv ((binOp .leq 3 t33 (.int .i64 0)).run Tryd.prog w) R fun t35 w =>
  cond t35 (opv ((binOp .add 3 t33 t13).run Tryd.prog w) R fun t38 w =>
  j1 (upd (upd (upd (upd (upd (upd (upd (upd (ini [a0, a1, a2]) 3 t3) 6 (.slice none 0 0)) 7 t11) 8 t13) 29 t29) 9 t33) 35 t35) 9 t38) w)
  (j1 (upd (upd (upd (upd (upd (upd (upd (ini [a0, a1, a2]) 3 t3) 6 (.slice none 0 0)) 7 t11) 8 t13) 29 t29) 9 t33) 35 t35) w)) fun e1 g1 w =>
  join (mix [35,9] g1 e1) (fun j2 =>
  loop (upd (mix [35,9] g1 e1) 10 (.int .i64 0)) w fun e3 g3 w j3 =>
  opv ((binOp .lss 3 (g3 10) (g1 9)).run Tryd.prog w) R fun t41 w =>
  cond t41 (opv ((binOp .add 3 a1 (g3 10)).run Tryd.prog w) R fun t47 w =>
  opv ((binOp .rem 3 t47 t13).run Tryd.prog w) R fun t49 w =>
  opv ((Instr.buildSlice 70 1 #[(0, t49)]).run Tryd.prog w) R fun t50 w =>
  opv ((Builtin.append_ #[70, 70] 70 #[(g3 7), t50]).run Tryd.prog w) R fun t51 w =>
  opv ((binOp .add 3 (g3 10) (.int .i64 1)).run Tryd.prog w) R fun t43 w =>
  j3 (upd (upd (upd (mix [41,7,10] g3 e3) 41 t41) 7 t51) 10 t43) w)
  (j2 (upd (mix [41,7,10] g3 e3) 41 t41) w)) fun e2 g2 w =>
  R (.returned (g2 7)) w)
theorem F35.eq (R : Ending → World → Prop) (w : World) (a0 a1 a2 : Value) : F35 R w a0 a1 a2 = shF Tryd.prog 35 [0,1,2,3,6,7,8,9,10,29,35,41] [a0, a1, a2] R w := by kernel_rfl
theorem F35.calls {R : Ending → World → Prop} {w : World} {a0 a1 a2 : Value} (h : F35 R w a0 a1 a2) : Calls Tryd.prog 35 #[a0, a1, a2] w R := shF_sound (F35.eq R w a0 a1 a2 ▸ h)

/-- greenscreen/greenscreenref01.Held -/
def F36 (R : Ending → World → Prop) (w : World) (a0 a1 a2 : Value) : Prop :=
  opv ((binOp .lss 3 a0 a1).run Tryd.prog w) R fun t9 w =>
  cond t9 (R (.returned a1) w)
  (opv ((binOp .gtr 3 a0 a2).run Tryd.prog w) R fun t13 w =>
  cond t13 (R (.returned a2) w)
  (R (.returned a0) w))
theorem F36.eq (R : Ending → World → Prop) (w : World) (a0 a1 a2 : Value) : F36 R w a0 a1 a2 = shF Tryd.prog 36 [0,1,2,6,9,13] [a0, a1, a2] R w := by kernel_rfl
theorem F36.calls {R : Ending → World → Prop} {w : World} {a0 a1 a2 : Value} (h : F36 R w a0 a1 a2) : Calls Tryd.prog 36 #[a0, a1, a2] w R := shF_sound (F36.eq R w a0 a1 a2 ▸ h)

/-- greenscreen/greenscreenref14.Sign -/
def F37 (R : Ending → World → Prop) (w : World) (a0 a1 : Value) : Prop :=
  opv ((Instr.box 36 a1).run Tryd.prog w) R fun t3 w =>
  opv ((Instr.fieldAt 36 t3 2).run Tryd.prog w) R fun t5 w =>
  opv ((Instr.loadAt 4 t5).run Tryd.prog w) R fun t6 w =>
  cond t6 (R (.returned (.string ⟨#[32]⟩)) w)
  (opv ((Instr.fieldAt 36 t3 1).run Tryd.prog w) R fun t7 w =>
  opv ((Instr.loadAt 4 t7).run Tryd.prog w) R fun t8 w =>
  cond t8 (opv ((Instr.fieldAt 36 t3 0).run Tryd.prog w) R fun t9 w =>
  opv ((Instr.loadAt 5 t9).run Tryd.prog w) R fun t10 w =>
  opv ((convert 5 3 t10).run Tryd.prog w) R fun t11 w =>
  opv ((binOp .add 3 (.int .i64 57344) t11).run Tryd.prog w) R fun t12 w =>
  opv ((convert 3 21 t12).run Tryd.prog w) R fun t13 w =>
  opv ((convert 21 9 t13).run Tryd.prog w) R fun t14 w =>
  R (.returned t14) w)
  (opv ((Instr.fieldAt 36 t3 0).run Tryd.prog w) R fun t15 w =>
  opv ((Instr.loadAt 5 t15).run Tryd.prog w) R fun t16 w =>
  callF Tryd.prog 45 #[t16] w R fun t17 w =>
  opv ((Op.unary .not t17).run Tryd.prog w) R fun t18 w =>
  cond t18 (R (.returned (.string ⟨#[32]⟩)) w)
  (opv ((Instr.fieldAt 36 t3 0).run Tryd.prog w) R fun t20 w =>
  opv ((Instr.loadAt 5 t20).run Tryd.prog w) R fun t21 w =>
  callF Tryd.prog 46 #[a0, t21] w R fun t22 w =>
  opv ((convert 21 9 t22).run Tryd.prog w) R fun t23 w =>
  R (.returned t23) w)))
theorem F37.eq (R : Ending → World → Prop) (w : World) (a0 a1 : Value) : F37 R w a0 a1 = shF Tryd.prog 37 [0,1,3,4,6,8,18] [a0, a1] R w := by kernel_rfl
theorem F37.calls {R : Ending → World → Prop} {w : World} {a0 a1 : Value} (h : F37 R w a0 a1) : Calls Tryd.prog 37 #[a0, a1] w R := shF_sound (F37.eq R w a0 a1 ▸ h)

/-- (*greenscreen/plane.Plane).signs -/
def F38 (R : Ending → World → Prop) (w : World) (a0 a1 a2 a3 : Value) : Prop :=
  callF Tryd.prog 47 #[a1] w R fun t14 w =>
  opv ((Instr.alloc 83 true (.tuple #[])).run Tryd.prog w) R fun t10 w =>
  opu ((Instr.storeAt 83 t10 t14).run Tryd.prog w) R fun _ w =>
  join (upd (upd (upd (ini [a0, a1, a2, a3]) 8 (.slice none 0 0)) 9 (.slice none 0 0)) 10 t10) (fun j1 =>
  loop (upd (upd (upd (upd (upd (ini [a0, a1, a2, a3]) 8 (.slice none 0 0)) 9 (.slice none 0 0)) 10 t10) 15 a3) 16 (.int .i64 0)) w fun e2 g2 w j2 =>
  opv ((binOp .lss 3 (g2 16) a3).run Tryd.prog w) R fun t17 w =>
  cond t17 (join (upd (mix [17,11,12,41,58,9,16] g2 e2) 17 t17) (fun j3 =>
  drawn w fun T w =>
  qop T w (fun w K => nilck a0 w K) fun t20 =>
  qop T w (fun w K => opv ((Instr.fieldAt 66 t20 1).run Tryd.prog w) noR K) fun t21 =>
  qop T w (fun w K => opv ((Instr.loadAt 30 t21).run Tryd.prog w) noR K) fun t22 =>
  qop T w (fun w K => opv ((binOp .add 3 a2 (g2 16)).run Tryd.prog w) noR K) fun t25 =>
  qop T w (fun w K => nilck a0 w K) fun t27 =>
  qop T w (fun w K => opv ((Instr.fieldAt 66 t27 1).run Tryd.prog w) noR K) fun t28 =>
  qop T w (fun w K => opv ((Instr.loadAt 30 t28).run Tryd.prog w) noR K) fun t29 =>
  qop T w (fun w K => opv ((Builtin.len_ #[30] 3 #[t29]).run Tryd.prog w) noR K) fun t30 =>
  qop T w (fun w K => opv ((binOp .rem 3 t25 t30).run Tryd.prog w) noR K) fun t31 =>
  qop T w (fun w K => opv ((Instr.indexAt 30 t22 t31).run Tryd.prog w) noR K) fun t32 =>
  qop T w (fun w K => opv ((Instr.loadAt 36 t32).run Tryd.prog w) noR K) fun t33 =>
  ext w fun w =>
  lop T w (fun w K => opv ((Instr.alloc 36 true (.tuple #[])).run Tryd.prog w) R K) fun t12 w =>
  ext w fun w =>
  opu ((Instr.storeAt 36 t12 t33).run Tryd.prog w) R fun _ w =>
  ext w fun w =>
  opv ((Instr.fieldAt 36 t12 2).run Tryd.prog w) R fun t42 w =>
  opv ((Instr.loadAt 4 t42).run Tryd.prog w) R fun t43 w =>
  gd t43 false (fun K => opv ((Instr.fieldAt 36 t12 1).run Tryd.prog w) R K) w fun t45 w =>
  gd t43 false (fun K => opv ((Instr.loadAt 4 t45).run Tryd.prog w) R K) w fun t46 w =>
  gd t43 false (fun K => opv ((Op.unary .not t46).run Tryd.prog w) R K) w fun t47 w =>
  gd t43 false (fun K => K t47 w) w fun t48 w =>
  gd t48 true (fun K => opv ((Instr.fieldAt 36 t12 0).run Tryd.prog w) R K) w fun t49 w =>
  gd t48 true (fun K => opv ((Instr.loadAt 5 t49).run Tryd.prog w) R K) w fun t50 w =>
  gd t48 true (fun K => callF Tryd.prog 48 #[t50] w R K) w fun t51 w =>
  gd t48 true (fun K => opv ((Op.unary .not t51).run Tryd.prog w) R K) w fun t52 w =>
  gd t43 false (fun K => pick t48 t52 (.bool false) w K) w fun t53 w =>
  pick t43 (.bool true) t53 w fun t54 w =>
  cond t54 (opv ((Instr.buildSlice 74 1 #[(0, (.int .i32 32))]).run Tryd.prog w) R fun t56 w =>
  opv ((Builtin.append_ #[74, 74] 74 #[(g2 9), t56]).run Tryd.prog w) R fun t57 w =>
  j3 (upd (upd (upd (upd (upd (mix [17,11,12,41,58,9,16] g2 e2) 17 t17) 11 (g2 16)) 12 t12) 41 t54) 9 t57) w)
  (opv ((Instr.fieldAt 36 t12 1).run Tryd.prog w) R fun t59 w =>
  opv ((Instr.loadAt 4 t59).run Tryd.prog w) R fun t60 w =>
  cond t60 (opv ((Instr.fieldAt 36 t12 0).run Tryd.prog w) R fun t62 w =>
  opv ((Instr.loadAt 5 t62).run Tryd.prog w) R fun t63 w =>
  callF Tryd.prog 49 #[t63] w R fun t64 w =>
  opv ((Instr.buildSlice 74 1 #[(0, t64)]).run Tryd.prog w) R fun t65 w =>
  opv ((Builtin.append_ #[74, 74] 74 #[(g2 9), t65]).run Tryd.prog w) R fun t66 w =>
  j3 (upd (upd (upd (upd (upd (upd (mix [17,11,12,41,58,9,16] g2 e2) 17 t17) 11 (g2 16)) 12 t12) 41 t54) 58 t60) 9 t66) w)
  (opv ((Instr.fieldAt 36 t12 0).run Tryd.prog w) R fun t35 w =>
  opv ((Instr.loadAt 5 t35).run Tryd.prog w) R fun t36 w =>
  opv ((Instr.indexAt 83 t10 t36).run Tryd.prog w) R fun t37 w =>
  opv ((Instr.loadAt 21 t37).run Tryd.prog w) R fun t38 w =>
  opv ((Instr.buildSlice 74 1 #[(0, t38)]).run Tryd.prog w) R fun t39 w =>
  opv ((Builtin.append_ #[74, 74] 74 #[(g2 9), t39]).run Tryd.prog w) R fun t40 w =>
  j3 (upd (upd (upd (upd (upd (upd (mix [17,11,12,41,58,9,16] g2 e2) 17 t17) 11 (g2 16)) 12 t12) 41 t54) 58 t60) 9 t40) w))) fun e3 g3 w =>
  opv ((binOp .add 3 (g2 16) (.int .i64 1)).run Tryd.prog w) R fun t67 w =>
  j2 (upd (mix [11,12,41,58,9] g3 e3) 16 t67) w)
  (j1 (upd (mix [17,11,12,41,58,9,16] g2 e2) 17 t17) w)) fun e1 g1 w =>
  R (.returned (g1 9)) w
theorem F38.eq (R : Ending → World → Prop) (w : World) (a0 a1 a2 a3 : Value) : F38 R w a0 a1 a2 a3 = shF Tryd.prog 38 [0,1,2,3,8,9,10,11,12,15,16,17,41,58] [a0, a1, a2, a3] R w := by kernel_rfl
theorem F38.calls {R : Ending → World → Prop} {w : World} {a0 a1 a2 a3 : Value} (h : F38 R w a0 a1 a2 a3) : Calls Tryd.prog 38 #[a0, a1, a2, a3] w R := shF_sound (F38.eq R w a0 a1 a2 a3 ▸ h)

/-- strings.ToValidUTF8 -/
def F39 (R : Ending → World → Prop) (w : World) (a0 a1 : Value) : Prop :=
  opv ((Instr.alloc 89 true (.tuple #[])).run Tryd.prog w) R fun t5 w =>
  join (upd (upd (ini [a0, a1]) 4 (.string ⟨#[]⟩)) 5 t5) (fun j1 =>
  opv ((Instr.range 9 a0).run Tryd.prog w) R fun t16 w =>
  loop (upd (upd (upd (ini [a0, a1]) 4 (.string ⟨#[]⟩)) 5 t5) 16 t16) w fun e2 g2 w j2 =>
  opv ((Instr.next t16 true 0).run Tryd.prog w) R fun t17 w =>
  opv ((Instr.extract t17 0).run Tryd.prog w) R fun t18 w =>
  cond t18 (opv ((Instr.extract t17 1).run Tryd.prog w) R fun t19 w =>
  opv ((Instr.extract t17 2).run Tryd.prog w) R fun t20 w =>
  opv ((binE true .neq 21 t20 (.int .i32 65533)).run Tryd.prog w) R fun t22 w =>
  cond t22 (j2 (upd (upd (upd (upd (upd (mix [17,18,6,7,22,9,31,0] g2 e2) 17 t17) 18 t18) 6 t19) 7 t20) 22 t22) w)
  (opv ((Instr.sliceAt 9 (g2 0) (some t19) none none).run Tryd.prog w) R fun t26 w =>
  callF Tryd.prog 50 #[t26] w R fun t27 w =>
  opv ((Instr.extract t27 0).run Tryd.prog w) R fun t28 w =>
  opv ((Instr.extract t27 1).run Tryd.prog w) R fun t29 w =>
  opv ((binE true .eql 3 t29 (.int .i64 1)).run Tryd.prog w) R fun t31 w =>
  cond t31 (opv ((Builtin.len_ #[9] 3 #[(g2 0)]).run Tryd.prog w) R fun t33 w =>
  opv ((Builtin.len_ #[9] 3 #[a1]).run Tryd.prog w) R fun t35 w =>
  opv ((binOp .add 3 t33 t35).run Tryd.prog w) R fun t36 w =>
  callF Tryd.prog 51 #[t5, t36] w R fun t37 w =>
  opv ((Instr.sliceAt 9 (g2 0) none (some t19) none).run Tryd.prog w) R fun t40 w =>
  callF Tryd.prog 52 #[t5, t40] w R fun t41 w =>
  opv ((Instr.sliceAt 9 (g2 0) (some t19) none none).run Tryd.prog w) R fun t44 w =>
  j1 (upd (upd (upd (upd (upd (upd (upd (upd (mix [17,18,6,7,22,9,31,0] g2 e2) 17 t17) 18 t18) 6 t19) 7 t20) 22 t22) 9 t29) 31 t31) 0 t44) w)
  (j2 (upd (upd (upd (upd (upd (upd (upd (mix [17,18,6,7,22,9,31,0] g2 e2) 17 t17) 18 t18) 6 t19) 7 t20) 22 t22) 9 t29) 31 t31) w)))
  (j1 (upd (upd (mix [17,18,6,7,22,9,31,0] g2 e2) 17 t17) 18 t18) w)) fun e1 g1 w =>
  callF Tryd.prog 53 #[t5] w R fun t45 w =>
  opv ((binE true .eql 3 t45 (.int .i64 0)).run Tryd.prog w) R fun t46 w =>
  cond t46 (R (.returned (g1 0)) w)
  (join (upd (upd (mix [16,17,18,6,7,22,9,31,0] g1 e1) 46 t46) 10 (.bool false)) (fun j3 =>
  loop (upd (upd (upd (mix [16,17,18,6,7,22,9,31,0] g1 e1) 46 t46) 10 (.bool false)) 11 (.int .i64 0)) w fun e4 g4 w j4 =>
  opv ((Builtin.len_ #[9] 3 #[(g1 0)]).run Tryd.prog w) R fun t50 w =>
  opv ((binOp .lss 3 (g4 11) t50).run Tryd.prog w) R fun t51 w =>
  cond t51 (opv ((Instr.index 9 (g1 0) (g4 11)).run Tryd.prog w) R fun t54 w =>
  opv ((binOp .lss 5 t54 (.int .u8 128)).run Tryd.prog w) R fun t56 w =>
  cond t56 (opv ((binOp .add 3 (g4 11) (.int .i64 1)).run Tryd.prog w) R fun t58 w =>
  callF Tryd.prog 54 #[t5, t54] w R fun t60 w =>
  j4 (upd (upd (upd (upd (upd (mix [51,12,56,14,69,73,10,11] g4 e4) 51 t51) 12 t54) 56 t56) 11 t58) 10 (.bool false)) w)
  (opv ((Instr.sliceAt 9 (g1 0) (some (g4 11)) none none).run Tryd.prog w) R fun t64 w =>
  callF Tryd.prog 50 #[t64] w R fun t65 w =>
  opv ((Instr.extract t65 0).run Tryd.prog w) R fun t66 w =>
  opv ((Instr.extract t65 1).run Tryd.prog w) R fun t67 w =>
  opv ((binE true .eql 3 t67 (.int .i64 1)).run Tryd.prog w) R fun t69 w =>
  cond t69 (opv ((binOp .add 3 (g4 11) (.int .i64 1)).run Tryd.prog w) R fun t71 w =>
  join (upd (upd (upd (upd (upd (upd (mix [51,12,56,14,69,73,10,11] g4 e4) 51 t51) 12 t54) 56 t56) 14 t67) 69 t69) 11 t71) (fun j5 =>
  opv ((Op.unary .not (g4 10)).run Tryd.prog w) R fun t73 w =>
  cond t73 (callF Tryd.prog 52 #[t5, a1] w R fun t75 w =>
  j5 (upd (upd (upd (upd (upd (upd (upd (upd (mix [51,12,56,14,69,73,10,11] g4 e4) 51 t51) 12 t54) 56 t56) 14 t67) 69 t69) 11 t71) 73 t73) 10 (.bool true)) w)
  (j5 (upd (upd (upd (upd (upd (upd (upd (mix [51,12,56,14,69,73,10,11] g4 e4) 51 t51) 12 t54) 56 t56) 14 t67) 69 t69) 11 t71) 73 t73) w)) fun e5 g5 w =>
  j4 (mix [73,10] g5 e5) w)
  (opv ((binOp .add 3 (g4 11) t67).run Tryd.prog w) R fun t80 w =>
  opv ((Instr.sliceAt 9 (g1 0) (some (g4 11)) (some t80) none).run Tryd.prog w) R fun t81 w =>
  callF Tryd.prog 52 #[t5, t81] w R fun t82 w =>
  opv ((binOp .add 3 (g4 11) t67).run Tryd.prog w) R fun t85 w =>
  j4 (upd (upd (upd (upd (upd (upd (upd (mix [51,12,56,14,69,73,10,11] g4 e4) 51 t51) 12 t54) 56 t56) 14 t67) 69 t69) 10 (.bool false)) 11 t85) w)))
  (j3 (upd (mix [51,12,56,14,69,73,10,11] g4 e4) 51 t51) w)) fun e3 g3 w =>
  callF Tryd.prog 55 #[t5] w R fun t86 w =>
  R (.returned t86) w)
theorem F39.eq (R : Ending → World → Prop) (w : World) (a0 a1 : Value) : F39 R w a0 a1 = shF Tryd.prog 39 [0,1,4,5,6,7,9,10,11,12,14,16,17,18,22,31,46,51,56,69,73] [a0, a1] R w := by kernel_rfl
theorem F39.calls {R : Ending → World → Prop} {w : World} {a0 a1 : Value} (h : F39 R w a0 a1) : Calls Tryd.prog 39 #[a0, a1] w R := shF_sound (F39.eq R w a0 a1 ▸ h)

/-- slices.Equal[[]rune,rune] -/
def F40 (R : Ending → World → Prop) (w : World) (a0 a1 : Value) : Prop :=
  opv ((Builtin.len_ #[74] 3 #[a0]).run Tryd.prog w) R fun t7 w =>
  opv ((Builtin.len_ #[74] 3 #[a1]).run Tryd.prog w) R fun t9 w =>
  opv ((binE false .neq 3 t7 t9).run Tryd.prog w) R fun t10 w =>
  cond t10 (R (.returned (.bool false)) w)
  (join (upd (upd (ini [a0, a1]) 4 (.bool false)) 10 t10) (fun j1 =>
  opv ((Builtin.len_ #[74] 3 #[a0]).run Tryd.prog w) R fun t12 w =>
  loop (upd (upd (upd (upd (ini [a0, a1]) 4 (.bool false)) 10 t10) 12 t12) 13 (.int .i64 0)) w fun e2 g2 w j2 =>
  opv ((binOp .lss 3 (g2 13) t12).run Tryd.prog w) R fun t14 w =>
  cond t14 (drawn w fun T w =>
  qop T w (fun w K => opv ((Instr.indexAt 74 a0 (g2 13)).run Tryd.prog w) noR K) fun t18 =>
  qop T w (fun w K => opv ((Instr.loadAt 21 t18).run Tryd.prog w) noR K) fun t19 =>
  qop T w (fun w K => opv ((Instr.indexAt 74 a1 (g2 13)).run Tryd.prog w) noR K) fun t22 =>
  qop T w (fun w K => opv ((Instr.loadAt 21 t22).run Tryd.prog w) noR K) fun t23 =>
  qop T w (fun w K => opv ((binE false .neq 21 t19 t23).run Tryd.prog w) noR K) fun t24 =>
  ext w fun w =>
  cond t24 (R (.returned (.bool false)) w)
  (opv ((binOp .add 3 (g2 13) (.int .i64 1)).run Tryd.prog w) R fun t25 w =>
  j2 (upd (upd (upd (upd (mix [14,5,24,4,13] g2 e2) 14 t14) 5 (g2 13)) 24 t24) 13 t25) w))
  (j1 (upd (mix [14,5,24,4,13] g2 e2) 14 t14) w)) fun e1 g1 w =>
  R (.returned (.bool true)) w)
theorem F40.eq (R : Ending → World → Prop) (w : World) (a0 a1 : Value) : F40 R w a0 a1 = shF Tryd.prog 40 [0,1,4,5,10,12,13,14,24] [a0, a1] R w := by kernel_rfl
theorem F40.calls {R : Ending → World → Prop} {w : World} {a0 a1 : Value} (h : F40 R w a0 a1) : Calls Tryd.prog 40 #[a0, a1] w R := shF_sound (F40.eq R w a0 a1 ▸ h)

/-- slices.Clone[[]greenscreen/api.Cell,greenscreen/api.Cell] -/
def F41 (R : Ending → World → Prop) (w : World) (a0 : Value) : Prop :=
  opv ((binE true .eql 30 a0 (.slice none 0 0)).run Tryd.prog w) R fun t4 w =>
  cond t4 (R (.returned (.slice none 0 0)) w)
  (opv ((Instr.buildSlice 30 0 #[]).run Tryd.prog w) R fun t5 w =>
  opv ((Builtin.append_ #[30, 30] 30 #[t5, a0]).run Tryd.prog w) R fun t7 w =>
  R (.returned t7) w)
theorem F41.eq (R : Ending → World → Prop) (w : World) (a0 : Value) : F41 R w a0 = shF Tryd.prog 41 [0,2,4] [a0] R w := by kernel_rfl
theorem F41.calls {R : Ending → World → Prop} {w : World} {a0 : Value} (h : F41 R w a0) : Calls Tryd.prog 41 #[a0] w R := shF_sound (F41.eq R w a0 ▸ h)

/-- slices.Equal[[]greenscreen/api.Cell,greenscreen/api.Cell] -/
def F42 (R : Ending → World → Prop) (w : World) (a0 a1 : Value) : Prop :=
  opv ((Builtin.len_ #[30] 3 #[a0]).run Tryd.prog w) R fun t7 w =>
  opv ((Builtin.len_ #[30] 3 #[a1]).run Tryd.prog w) R fun t9 w =>
  opv ((binE false .neq 3 t7 t9).run Tryd.prog w) R fun t10 w =>
  cond t10 (R (.returned (.bool false)) w)
  (join (upd (upd (ini [a0, a1]) 4 (.bool false)) 10 t10) (fun j1 =>
  opv ((Builtin.len_ #[30] 3 #[a0]).run Tryd.prog w) R fun t12 w =>
  loop (upd (upd (upd (upd (ini [a0, a1]) 4 (.bool false)) 10 t10) 12 t12) 13 (.int .i64 0)) w fun e2 g2 w j2 =>
  opv ((binOp .lss 3 (g2 13) t12).run Tryd.prog w) R fun t14 w =>
  cond t14 (drawn w fun T w =>
  qop T w (fun w K => opv ((Instr.indexAt 30 a0 (g2 13)).run Tryd.prog w) noR K) fun t18 =>
  qop T w (fun w K => opv ((Instr.loadAt 36 t18).run Tryd.prog w) noR K) fun t19 =>
  qop T w (fun w K => opv ((Instr.indexAt 30 a1 (g2 13)).run Tryd.prog w) noR K) fun t22 =>
  qop T w (fun w K => opv ((Instr.loadAt 36 t22).run Tryd.prog w) noR K) fun t23 =>
  qop T w (fun w K => opv ((binE false .neq 36 t19 t23).run Tryd.prog w) noR K) fun t24 =>
  ext w fun w =>
  cond t24 (R (.returned (.bool false)) w)
  (opv ((binOp .add 3 (g2 13) (.int .i64 1)).run Tryd.prog w) R fun t25 w =>
  j2 (upd (upd (upd (upd (mix [14,5,24,4,13] g2 e2) 14 t14) 5 (g2 13)) 24 t24) 13 t25) w))
  (j1 (upd (mix [14,5,24,4,13] g2 e2) 14 t14) w)) fun e1 g1 w =>
  R (.returned (.bool true)) w)
theorem F42.eq (R : Ending → World → Prop) (w : World) (a0 a1 : Value) : F42 R w a0 a1 = shF Tryd.prog 42 [0,1,4,5,10,12,13,14,24] [a0, a1] R w := by kernel_rfl
theorem F42.calls {R : Ending → World → Prop} {w : World} {a0 a1 : Value} (h : F42 R w a0 a1) : Calls Tryd.prog 42 #[a0, a1] w R := shF_sound (F42.eq R w a0 a1 ▸ h)

/-- greenscreen/addr.Between$1 -/
def F43 (R : Ending → World → Prop) (w : World) (a0 a1 a2 a3 : Value) : Prop :=
  opv ((Instr.loadAt 23 a1).run Tryd.prog w) R fun t7 w =>
  callF Tryd.prog 31 #[t7] w R fun t8 w =>
  opv ((Instr.loadAt 3 a2).run Tryd.prog w) R fun t9 w =>
  opv ((binOp .lss 3 t9 (.int .i64 0)).run Tryd.prog w) R fun t10 w =>
  gd t10 false (fun K => opv ((Instr.loadAt 3 a2).run Tryd.prog w) R K) w fun t12 w =>
  gd t10 false (fun K => K t8 w) w fun t13 w =>
  gd t10 false (fun K => opv ((binOp .geq 3 t12 t13).run Tryd.prog w) R K) w fun t14 w =>
  pick t10 (.bool true) t14 w fun t15 w =>
  gd t15 false (fun K => opv ((Instr.loadAt 3 a3).run Tryd.prog w) R K) w fun t17 w =>
  gd t15 false (fun K => opv ((binOp .lss 3 t17 (.int .i64 0)).run Tryd.prog w) R K) w fun t18 w =>
  pick t15 (.bool true) t18 w fun t19 w =>
  gd t19 false (fun K => opv ((Instr.loadAt 3 a3).run Tryd.prog w) R K) w fun t21 w =>
  gd t19 false (fun K => K t8 w) w fun t22 w =>
  gd t19 false (fun K => opv ((binOp .geq 3 t21 t22).run Tryd.prog w) R K) w fun t23 w =>
  pick t19 (.bool true) t23 w fun t24 w =>
  cond t24 (R (.returned (.tuple #[])) w)
  (opv ((Instr.loadAt 3 a2).run Tryd.prog w) R fun t25 w =>
  loop (upd (upd (upd (ini [a0, a1, a2, a3]) 5 t8) 24 t24) 6 t25) w fun e1 g1 w j1 =>
  callY Tryd.prog a0 #[(g1 6)] w R fun t28 w =>
  cond t28 (opv ((Instr.loadAt 23 a1).run Tryd.prog w) R fun t29 w =>
  callF Tryd.prog 44 #[t29, (g1 6), (.int .i64 1)] w R fun t31 w =>
  opv ((Instr.loadAt 3 a3).run Tryd.prog w) R fun t33 w =>
  opv ((binE false .eql 3 t31 t33).run Tryd.prog w) R fun t34 w =>
  cond t34 (R (.returned (.tuple #[])) w)
  (j1 (upd (upd (upd (mix [28,6,34] g1 e1) 28 t28) 6 t31) 34 t34) w))
  (R (.returned (.tuple #[])) w))
theorem F43.eq (R : Ending → World → Prop) (w : World) (a0 a1 a2 a3 : Value) : F43 R w a0 a1 a2 a3 = shF Tryd.prog 43 [0,1,2,3,5,6,24,28,34] [a0, a1, a2, a3] R w := by kernel_rfl
theorem F43.calls {R : Ending → World → Prop} {w : World} {a0 a1 a2 a3 : Value} (h : F43 R w a0 a1 a2 a3) : Calls Tryd.prog 43 #[a0, a1, a2, a3] w R := shF_sound (F43.eq R w a0 a1 a2 a3 ▸ h)

/-- greenscreen/addr.Move -/
def F44 (R : Ending → World → Prop) (w : World) (a0 a1 a2 : Value) : Prop :=
  opv ((Instr.box 23 a0).run Tryd.prog w) R fun t3 w =>
  opv ((Instr.loadAt 23 t3).run Tryd.prog w) R fun t8 w =>
  callF Tryd.prog 31 #[t8] w R fun t9 w =>
  opv ((binE true .eql 3 t9 (.int .i64 0)).run Tryd.prog w) R fun t11 w =>
  cond t11 (R (.returned (.int .i64 0)) w)
  (drawn w fun T w =>
  qop T w (fun w K => opv ((binOp .rem 3 a1 t9).run Tryd.prog w) noR K) fun t14 =>
  qop T w (fun w K => opv ((binOp .rem 3 a2 t9).run Tryd.prog w) noR K) fun t17 =>
  qop T w (fun w K => opv ((binOp .add 3 t14 t17).run Tryd.prog w) noR K) fun t18 =>
  qop T w (fun w K => opv ((binOp .rem 3 t18 t9).run Tryd.prog w) noR K) fun t20 =>
  qop T w (fun w K => opv ((binOp .add 3 t20 t9).run Tryd.prog w) noR K) fun t22 =>
  qop T w (fun w K => opv ((binOp .rem 3 t22 t9).run Tryd.prog w) noR K) fun t24 =>
  ext w fun w =>
  R (.returned t24) w)
theorem F44.eq (R : Ending → World → Prop) (w : World) (a0 a1 a2 : Value) : F44 R w a0 a1 a2 = shF Tryd.prog 44 [0,1,2,3,6,7,11] [a0, a1, a2] R w := by kernel_rfl
theorem F44.calls {R : Ending → World → Prop} {w : World} {a0 a1 a2 : Value} (h : F44 R w a0 a1 a2) : Calls Tryd.prog 44 #[a0, a1, a2] w R := shF_sound (F44.eq R w a0 a1 a2 ▸ h)

/-- greenscreen/greenscreenref01.Seen -/
def F45 (R : Ending → World → Prop) (w : World) (a0 : Value) : Prop :=
  opv ((binOp .geq 5 a0 (.int .u8 64)).run Tryd.prog w) R fun t4 w =>
  gd t4 true (fun K => K a0 w) w fun t6 w =>
  gd t4 true (fun K => opv ((binOp .leq 5 t6 (.int .u8 254)).run Tryd.prog w) R K) w fun t7 w =>
  pick t4 t7 (.bool false) w fun t8 w =>
  R (.returned t8) w
theorem F45.eq (R : Ending → World → Prop) (w : World) (a0 : Value) : F45 R w a0 = shF Tryd.prog 45 [0,2] [a0] R w := by kernel_rfl
theorem F45.calls {R : Ending → World → Prop} {w : World} {a0 : Value} (h : F45 R w a0) : Calls Tryd.prog 45 #[a0] w R := shF_sound (F45.eq R w a0 ▸ h)

/-- greenscreen/greenscreenref01.Sign -/
def F46 (R : Ending → World → Prop) (w : World) (a0 a1 : Value) : Prop :=
  opv ((Instr.buildSlice 87 0 #[]).run Tryd.prog w) R fun t9 w =>
  opv ((Instr.buildSlice 74 0 #[]).run Tryd.prog w) R fun t10 w =>
  join (upd (upd (upd (ini [a0, a1]) 4 (.int .i32 0)) 5 t9) 6 t10) (fun j1 =>
  opv ((binE true .eql 3 a0 (.int .i64 500)).run Tryd.prog w) R fun t12 w =>
  cond t12 (opv ((Instr.buildSlice 87 7 #[(0, (.int .u8 74)), (1, (.int .u8 79)), (2, (.int .u8 90)), (3, (.int .u8 95)), (4, (.int .u8 176)), (5, (.int .u8 186)), (6, (.int .u8 187))]).run Tryd.prog w) R fun t13 w =>
  opv ((Instr.buildSlice 74 7 #[(0, (.int .i32 91)), (1, (.int .i32 33)), (2, (.int .i32 93)), (3, (.int .i32 94)), (4, (.int .i32 162)), (5, (.int .i32 172)), (6, (.int .i32 124))]).run Tryd.prog w) R fun t14 w =>
  j1 (upd (upd (upd (upd (upd (upd (ini [a0, a1]) 4 (.int .i32 0)) 5 t9) 6 t10) 12 t12) 5 t13) 6 t14) w)
  (j1 (upd (upd (upd (upd (ini [a0, a1]) 4 (.int .i32 0)) 5 t9) 6 t10) 12 t12) w)) fun e1 g1 w =>
  join (mix [12,5,6] g1 e1) (fun j2 =>
  opv ((binE true .eql 3 a0 (.int .i64 1047)).run Tryd.prog w) R fun t16 w =>
  cond t16 (opv ((Instr.buildSlice 87 6 #[(0, (.int .u8 95)), (1, (.int .u8 173)), (2, (.int .u8 176)), (3, (.int .u8 186)), (4, (.int .u8 187)), (5, (.int .u8 189))]).run Tryd.prog w) R fun t17 w =>
  opv ((Instr.buildSlice 74 6 #[(0, (.int .i32 94)), (1, (.int .i32 91)), (2, (.int .i32 172)), (3, (.int .i32 221)), (4, (.int .i32 168)), (5, (.int .i32 93))]).run Tryd.prog w) R fun t18 w =>
  j2 (upd (upd (upd (mix [12,5,6] g1 e1) 16 t16) 5 t17) 6 t18) w)
  (j2 (upd (mix [12,5,6] g1 e1) 16 t16) w)) fun e2 g2 w =>
  join (mix [16,5,6] g2 e2) (fun j3 =>
  loop (upd (mix [16,5,6] g2 e2) 7 (.int .i64 0)) w fun e4 g4 w j4 =>
  opv ((Builtin.len_ #[87] 3 #[(g2 5)]).run Tryd.prog w) R fun t21 w =>
  opv ((binOp .lss 3 (g4 7) t21).run Tryd.prog w) R fun t22 w =>
  cond t22 (opv ((Instr.indexAt 87 (g2 5) (g4 7)).run Tryd.prog w) R fun t27 w =>
  opv ((Instr.loadAt 5 t27).run Tryd.prog w) R fun t28 w =>
  opv ((binE false .eql 5 t28 a1).run Tryd.prog w) R fun t30 w =>
  cond t30 (opv ((Instr.indexAt 74 (g2 6) (g4 7)).run Tryd.prog w) R fun t33 w =>
  opv ((Instr.loadAt 21 t33).run Tryd.prog w) R fun t34 w =>
  R (.returned t34) w)
  (opv ((binOp .add 3 (g4 7) (.int .i64 1)).run Tryd.prog w) R fun t24 w =>
  j4 (upd (upd (upd (mix [22,30,4,7] g4 e4) 22 t22) 30 t30) 7 t24) w))
  (j3 (upd (mix [22,30,4,7] g4 e4) 22 t22) w)) fun e3 g3 w =>
  callF Tryd.prog 56 #[] w R fun t35 w =>
  drawn w fun T w =>
  qop T w (fun w K => opv ((convert 5 3 a1).run Tryd.prog w) noR K) fun t38 =>
  qop T w (fun w K => opv ((binOp .mul 3 (.int .i64 2) t38).run Tryd.prog w) noR K) fun t39 =>
  qop T w (fun w K => opv ((Instr.index 9 t35 t39).run Tryd.prog w) noR K) fun t40 =>
  qop T w (fun w K => callF Tryd.prog 57 #[t40] w noR K) fun t41 =>
  qop T w (fun w K => opv ((binOp .mul 3 (.int .i64 16) t41).run Tryd.prog w) noR K) fun t42 =>
  qop T w (fun w K => opv ((convert 5 3 a1).run Tryd.prog w) noR K) fun t45 =>
  qop T w (fun w K => opv ((binOp .mul 3 (.int .i64 2) t45).run Tryd.prog w) noR K) fun t46 =>
  qop T w (fun w K => opv ((binOp .add 3 t46 (.int .i64 1)).run Tryd.prog w) noR K) fun t47 =>
  qop T w (fun w K => opv ((Instr.index 9 t35 t47).run Tryd.prog w) noR K) fun t48 =>
  qop T w (fun w K => callF Tryd.prog 57 #[t48] w noR K) fun t49 =>
  qop T w (fun w K => opv ((binOp .add 3 t42 t49).run Tryd.prog w) noR K) fun t50 =>
  qop T w (fun w K => opv ((convert 3 21 t50).run Tryd.prog w) noR K) fun t51 =>
  ext w fun w =>
  R (.returned t51) w
theorem F46.eq (R : Ending → World → Prop) (w : World) (a0 a1 : Value) : F46 R w a0 a1 = shF Tryd.prog 46 [0,1,4,5,6,7,8,12,16,22,30] [a0, a1] R w := by kernel_rfl
theorem F46.calls {R : Ending → World → Prop} {w : World} {a0 a1 : Value} (h : F46 R w a0 a1) : Calls Tryd.prog 46 #[a0, a1] w R := shF_sound (F46.eq R w a0 a1 ▸ h)

/-- greenscreen/code.Table -/
def F47 (R : Ending → World → Prop) (w : World) (a0 : Value) : Prop :=
  opv ((Instr.alloc 83 true (.tuple #[])).run Tryd.prog w) R fun t2 w =>
  opv ((Instr.alloc 83 true (.tuple #[])).run Tryd.prog w) R fun t3 w =>
  join (upd (upd (ini [a0]) 2 t2) 3 t3) (fun j1 =>
  callF Tryd.prog 58 #[] w R fun t8 w =>
  loop (upd (upd (upd (upd (ini [a0]) 2 t2) 3 t3) 8 t8) 9 (.int .i64 0)) w fun e2 g2 w j2 =>
  opv ((binOp .lss 3 (g2 9) (.int .i64 256)).run Tryd.prog w) R fun t10 w =>
  cond t10 (opv ((Instr.index 100 t8 (g2 9)).run Tryd.prog w) R fun t12 w =>
  opv ((convert 5 21 t12).run Tryd.prog w) R fun t15 w =>
  opv ((Instr.indexAt 83 t3 (g2 9)).run Tryd.prog w) R fun t16 w =>
  opu ((Instr.storeAt 21 t16 t15).run Tryd.prog w) R fun _ w =>
  opv ((binOp .add 3 (g2 9) (.int .i64 1)).run Tryd.prog w) R fun t17 w =>
  j2 (upd (upd (upd (upd (mix [10,4,5,9] g2 e2) 10 t10) 4 (g2 9)) 5 t12) 9 t17) w)
  (j1 (upd (mix [10,4,5,9] g2 e2) 10 t10) w)) fun e1 g1 w =>
  join (mix [8,10,4,5,9] g1 e1) (fun j3 =>
  callF Tryd.prog 59 #[a0] w R fun t19 w =>
  opv ((Builtin.len_ #[102] 3 #[t19]).run Tryd.prog w) R fun t20 w =>
  loop (upd (upd (upd (mix [8,10,4,5,9] g1 e1) 19 t19) 20 t20) 21 (.int .i64 0)) w fun e4 g4 w j4 =>
  opv ((binOp .lss 3 (g4 21) t20).run Tryd.prog w) R fun t22 w =>
  cond t22 (opv ((Instr.indexAt 102 t19 (g4 21)).run Tryd.prog w) R fun t23 w =>
  opv ((Instr.loadAt 105 t23).run Tryd.prog w) R fun t24 w =>
  opv ((Instr.alloc 105 true (.tuple #[])).run Tryd.prog w) R fun t7 w =>
  opu ((Instr.storeAt 105 t7 t24).run Tryd.prog w) R fun _ w =>
  opv ((Instr.fieldAt 105 t7 0).run Tryd.prog w) R fun t25 w =>
  opv ((Instr.loadAt 5 t25).run Tryd.prog w) R fun t26 w =>
  opv ((Instr.fieldAt 105 t7 1).run Tryd.prog w) R fun t27 w =>
  opv ((Instr.loadAt 5 t27).run Tryd.prog w) R fun t28 w =>
  opv ((convert 5 21 t28).run Tryd.prog w) R fun t29 w =>
  opv ((Instr.indexAt 83 t3 t26).run Tryd.prog w) R fun t30 w =>
  opu ((Instr.storeAt 21 t30 t29).run Tryd.prog w) R fun _ w =>
  opv ((binOp .add 3 (g4 21) (.int .i64 1)).run Tryd.prog w) R fun t31 w =>
  j4 (upd (upd (upd (mix [22,7,21] g4 e4) 22 t22) 7 t7) 21 t31) w)
  (j3 (upd (mix [22,7,21] g4 e4) 22 t22) w)) fun e3 g3 w =>
  opv ((Instr.loadAt 83 t3).run Tryd.prog w) R fun t32 w =>
  opu ((Instr.storeAt 83 t2 t32).run Tryd.prog w) R fun _ w =>
  ldv ((Instr.loadAt 83 t2).run Tryd.prog w) w fun r0 =>
  R (.returned r0) w
theorem F47.eq (R : Ending → World → Prop) (w : World) (a0 : Value) : F47 R w a0 = shF Tryd.prog 47 [0,2,3,4,5,7,8,9,10,19,20,21,22] [a0] R w := by kernel_rfl
theorem F47.calls {R : Ending → World → Prop} {w : World} {a0 : Value} (h : F47 R w a0) : Calls Tryd.prog 47 #[a0] w R := shF_sound (F47.eq R w a0 ▸ h)

/-- greenscreen/code.Graphic -/
def F48 (R : Ending → World → Prop) (w : World) (a0 : Value) : Prop :=
  opv ((binOp .geq 5 a0 (.int .u8 64)).run Tryd.prog w) R fun t4 w =>
  gd t4 true (fun K => K a0 w) w fun t6 w =>
  gd t4 true (fun K => opv ((binOp .leq 5 t6 (.int .u8 254)).run Tryd.prog w) R K) w fun t7 w =>
  pick t4 t7 (.bool false) w fun t8 w =>
  R (.returned t8) w
theorem F48.eq (R : Ending → World → Prop) (w : World) (a0 : Value) : F48 R w a0 = shF Tryd.prog 48 [0,2] [a0] R w := by kernel_rfl
theorem F48.calls {R : Ending → World → Prop} {w : World} {a0 : Value} (h : F48 R w a0) : Calls Tryd.prog 48 #[a0] w R := shF_sound (F48.eq R w a0 ▸ h)

/-- greenscreen/code.Special -/
def F49 (R : Ending → World → Prop) (w : World) (a0 : Value) : Prop :=
  opv ((convert 5 21 a0).run Tryd.prog w) R fun t4 w =>
  opv ((binOp .add 21 (.int .i32 57344) t4).run Tryd.prog w) R fun t5 w =>
  R (.returned t5) w
theorem F49.eq (R : Ending → World → Prop) (w : World) (a0 : Value) : F49 R w a0 = shF Tryd.prog 49 [0,2] [a0] R w := by kernel_rfl
theorem F49.calls {R : Ending → World → Prop} {w : World} {a0 : Value} (h : F49 R w a0) : Calls Tryd.prog 49 #[a0] w R := shF_sound (F49.eq R w a0 ▸ h)

/-- unicode/utf8.DecodeRuneInString -/
def F50 (R : Ending → World → Prop) (w : World) (a0 : Value) : Prop :=
  opv ((binE true .neq 9 a0 (.string ⟨#[]⟩)).run Tryd.prog w) R fun t5 w =>
  gd t5 true (fun K => K a0 w) w fun t7 w =>
  gd t5 true (fun K => opv ((Instr.index 9 t7 (.int .i64 0)).run Tryd.prog w) R K) w fun t8 w =>
  gd t5 true (fun K => opv ((binOp .lss 5 t8 (.int .u8 128)).run Tryd.prog w) R K) w fun t9 w =>
  pick t5 t9 (.bool false) w fun t10 w =>
  cond t10 (opv ((Instr.index 9 a0 (.int .i64 0)).run Tryd.prog w) R fun t12 w =>
  opv ((convert 5 21 t12).run Tryd.prog w) R fun t13 w =>
  R (.returned (.tuple #[t13, (.int .i64 1)])) w)
  (callF Tryd.prog 60 #[a0] w R fun t16 w =>
  opv ((Instr.extract t16 0).run Tryd.prog w) R fun t17 w =>
  opv ((Instr.extract t16 1).run Tryd.prog w) R fun t18 w =>
  R (.returned (.tuple #[t17, t18])) w)
theorem F50.eq (R : Ending → World → Prop) (w : World) (a0 : Value) : F50 R w a0 = shF Tryd.prog 50 [0,2,3,10] [a0] R w := by kernel_rfl
theorem F50.calls {R : Ending → World → Prop} {w : World} {a0 : Value} (h : F50 R w a0) : Calls Tryd.prog 50 #[a0] w R := shF_sound (F50.eq R w a0 ▸ h)

/-- (*strings.Builder).Grow -/
def F51 (R : Ending → World → Prop) (w : World) (a0 a1 : Value) : Prop :=
  callF Tryd.prog 61 #[a0] w R fun t5 w =>
  join (ini [a0, a1]) (fun j1 =>
  opv ((binOp .lss 3 a1 (.int .i64 0)).run Tryd.prog w) R fun t7 w =>
  cond t7 (opv ((Instr.makeInterface 9 (.string ⟨#[115, 116, 114, 105, 110, 103, 115, 46, 66, 117, 105, 108, 100, 101, 114, 46, 71, 114, 111, 119, 58, 32, 110, 101, 103, 97, 116, 105, 118, 101, 32, 99, 111, 117, 110, 116]⟩)).run Tryd.prog w) R fun t8 w =>
  opv ((Instr.panic t8).run Tryd.prog w) R fun _ w =>
  j1 (upd (ini [a0, a1]) 7 t7) w)
  (j1 (upd (ini [a0, a1]) 7 t7) w)) fun e1 g1 w =>
  drawn w fun T w =>
  qop T w (fun w K => nilck a0 w K) fun t10 =>
  qop T w (fun w K => opv ((Instr.fieldAt 89 t10 1).run Tryd.prog w) noR K) fun t11 =>
  qop T w (fun w K => opv ((Instr.loadAt 87 t11).run Tryd.prog w) noR K) fun t12 =>
  qop T w (fun w K => opv ((Builtin.cap_ #[87] 3 #[t12]).run Tryd.prog w) noR K) fun t13 =>
  qop T w (fun w K => nilck a0 w K) fun t15 =>
  qop T w (fun w K => opv ((Instr.fieldAt 89 t15 1).run Tryd.prog w) noR K) fun t16 =>
  qop T w (fun w K => opv ((Instr.loadAt 87 t16).run Tryd.prog w) noR K) fun t17 =>
  qop T w (fun w K => opv ((Builtin.len_ #[87] 3 #[t17]).run Tryd.prog w) noR K) fun t18 =>
  qop T w (fun w K => opv ((binOp .sub 3 t13 t18).run Tryd.prog w) noR K) fun t19 =>
  qop T w (fun w K => opv ((binOp .lss 3 t19 a1).run Tryd.prog w) noR K) fun t21 =>
  ext w fun w =>
  cond t21 (callF Tryd.prog 62 #[a0, a1] w R fun t24 w =>
  R (.returned (.tuple #[])) w)
  (R (.returned (.tuple #[])) w)
theorem F51.eq (R : Ending → World → Prop) (w : World) (a0 a1 : Value) : F51 R w a0 a1 = shF Tryd.prog 51 [0,1,7,21] [a0, a1] R w := by kernel_rfl
theorem F51.calls {R : Ending → World → Prop} {w : World} {a0 a1 : Value} (h : F51 R w a0 a1) : Calls Tryd.prog 51 #[a0, a1] w R := shF_sound (F51.eq R w a0 a1 ▸ h)

/-- (*strings.Builder).WriteString -/
def F52 (R : Ending → World → Prop) (w : World) (a0 a1 : Value) : Prop :=
  callF Tryd.prog 61 #[a0] w R fun t7 w =>
  nilck a0 w fun t10 w =>
  opv ((Instr.fieldAt 89 t10 1).run Tryd.prog w) R fun t11 w =>
  opv ((Instr.loadAt 87 t11).run Tryd.prog w) R fun t12 w =>
  opv ((Builtin.append_ #[87, 9] 87 #[t12, a1]).run Tryd.prog w) R fun t14 w =>
  nilck a0 w fun t15 w =>
  opv ((Instr.fieldAt 89 t15 1).run Tryd.prog w) R fun t16 w =>
  opu ((Instr.storeAt 87 t16 t14).run Tryd.prog w) R fun _ w =>
  opv ((Builtin.len_ #[9] 3 #[a1]).run Tryd.prog w) R fun t18 w =>
  R (.returned (.tuple #[t18, .nilIface])) w
theorem F52.eq (R : Ending → World → Prop) (w : World) (a0 a1 : Value) : F52 R w a0 a1 = shF Tryd.prog 52 [0,1,4,5] [a0, a1] R w := by kernel_rfl
theorem F52.calls {R : Ending → World → Prop} {w : World} {a0 a1 : Value} (h : F52 R w a0 a1) : Calls Tryd.prog 52 #[a0, a1] w R := shF_sound (F52.eq R w a0 a1 ▸ h)

/-- (*strings.Builder).Cap -/
def F53 (R : Ending → World → Prop) (w : World) (a0 : Value) : Prop :=
  nilck a0 w fun t4 w =>
  opv ((Instr.fieldAt 89 t4 1).run Tryd.prog w) R fun t5 w =>
  opv ((Instr.loadAt 87 t5).run Tryd.prog w) R fun t6 w =>
  opv ((Builtin.cap_ #[87] 3 #[t6]).run Tryd.prog w) R fun t7 w =>
  R (.returned t7) w
theorem F53.eq (R : Ending → World → Prop) (w : World) (a0 : Value) : F53 R w a0 = shF Tryd.prog 53 [0,2] [a0] R w := by kernel_rfl
theorem F53.calls {R : Ending → World → Prop} {w : World} {a0 : Value} (h : F53 R w a0) : Calls Tryd.prog 53 #[a0] w R := shF_sound (F53.eq R w a0 ▸ h)

/-- (*strings.Builder).WriteByte -/
def F54 (R : Ending → World → Prop) (w : World) (a0 a1 : Value) : Prop :=
  callF Tryd.prog 61 #[a0] w R fun t6 w =>
  nilck a0 w fun t9 w =>
  opv ((Instr.fieldAt 89 t9 1).run Tryd.prog w) R fun t10 w =>
  opv ((Instr.loadAt 87 t10).run Tryd.prog w) R fun t11 w =>
  opv ((Instr.buildSlice 87 1 #[(0, a1)]).run Tryd.prog w) R fun t13 w =>
  opv ((Builtin.append_ #[87, 87] 87 #[t11, t13]).run Tryd.prog w) R fun t14 w =>
  nilck a0 w fun t15 w =>
  opv ((Instr.fieldAt 89 t15 1).run Tryd.prog w) R fun t16 w =>
  opu ((Instr.storeAt 87 t16 t14).run Tryd.prog w) R fun _ w =>
  R (.returned .nilIface) w
theorem F54.eq (R : Ending → World → Prop) (w : World) (a0 a1 : Value) : F54 R w a0 a1 = shF Tryd.prog 54 [0,1,4] [a0, a1] R w := by kernel_rfl
theorem F54.calls {R : Ending → World → Prop} {w : World} {a0 a1 : Value} (h : F54 R w a0 a1) : Calls Tryd.prog 54 #[a0, a1] w R := shF_sound (F54.eq R w a0 a1 ▸ h)

/-- (*strings.Builder).String -/
def F55 (R : Ending → World → Prop) (w : World) (a0 : Value) : Prop :=
  drawn w fun T w =>
  qop T w (fun w K => nilck a0 w K) fun t4 =>
  qop T w (fun w K => opv ((Instr.fieldAt 89 t4 1).run Tryd.prog w) noR K) fun t5 =>
  qop T w (fun w K => opv ((Instr.loadAt 87 t5).run Tryd.prog w) noR K) fun t6 =>
  qop T w (fun w K => nilck a0 w K) fun t9 =>
  qop T w (fun w K => opv ((Instr.fieldAt 89 t9 1).run Tryd.prog w) noR K) fun t10 =>
  qop T w (fun w K => opv ((Instr.loadAt 87 t10).run Tryd.prog w) noR K) fun t11 =>
  qop T w (fun w K => opv ((Builtin.len_ #[87] 3 #[t11]).run Tryd.prog w) noR K) fun t12 =>
  ext w fun w =>
  lop T w (fun w K => opv ((Builtin.unsafeSliceData_ #[87] 106 #[t6]).run Tryd.prog w) R K) fun t7 w =>
  ext w fun w =>
  lop T w (fun w K => opv ((Builtin.unsafeString_ #[106, 3] 9 #[t7, t12]).run Tryd.prog w) R K) fun t13 w =>
  ext w fun w =>
  R (.returned t13) w
theorem F55.eq (R : Ending → World → Prop) (w : World) (a0 : Value) : F55 R w a0 = shF Tryd.prog 55 [0,2] [a0] R w := by kernel_rfl
theorem F55.calls {R : Ending → World → Prop} {w : World} {a0 : Value} (h : F55 R w a0) : Calls Tryd.prog 55 #[a0] w R := shF_sound (F55.eq R w a0 ▸ h)

/-- greenscreen/greenscreenref01.list -/
def F56 (R : Ending → World → Prop) (w : World) : Prop :=
  R (.returned (.string ⟨#[48, 48, 48, 49, 48, 50, 48, 51, 57, 67, 48, 57, 56, 54, 55, 70, 57, 55, 56, 68, 56, 69, 48, 66, 48, 67, 48, 68, 48, 69, 48, 70, 49, 48, 49, 49, 49, 50, 49, 51, 57, 68, 56, 53, 48, 56, 56, 55, 49, 56, 49, 57, 57, 50, 56, 70, 49, 67, 49, 68, 49, 69, 49, 70, 56, 48, 56, 49, 56, 50, 56, 51, 56, 52, 48, 65, 49, 55, 49, 66, 56, 56, 56, 57, 56, 65, 56, 66, 56, 67, 48, 53, 48, 54, 48, 55, 57, 48, 57, 49, 49, 54, 57, 51, 57, 52, 57, 53, 57, 54, 48, 52, 57, 56, 57, 57, 57, 65, 57, 66, 49, 52, 49, 53, 57, 69, 49, 65, 50, 48, 65, 48, 69, 50, 69, 52, 69, 48, 69, 49, 69, 51, 69, 53, 69, 55, 70, 49, 65, 50, 50, 69, 51, 67, 50, 56, 50, 66, 55, 67, 50, 54, 69, 57, 69, 65, 69, 66, 69, 56, 69, 68, 69, 69, 69, 70, 69, 67, 68, 70, 50, 49, 50, 52, 50, 65, 50, 57, 51, 66, 65, 67, 50, 68, 50, 70, 67, 50, 67, 52, 67, 48, 67, 49, 67, 51, 67, 53, 67, 55, 68, 49, 65, 54, 50, 67, 50, 53, 53, 70, 51, 69, 51, 70, 70, 56, 67, 57, 67, 65, 67, 66, 67, 56, 67, 68, 67, 69, 67, 70, 67, 67, 54, 48, 51, 65, 50, 51, 52, 48, 50, 55, 51, 68, 50, 50, 68, 56, 54, 49, 54, 50, 54, 51, 54, 52, 54, 53, 54, 54, 54, 55, 54, 56, 54, 57, 65, 66, 66, 66, 70, 48, 70, 68, 70, 69, 66, 49, 66, 48, 54, 65, 54, 66, 54, 67, 54, 68, 54, 69, 54, 70, 55, 48, 55, 49, 55, 50, 65, 65, 66, 65, 69, 54, 66, 56, 67, 54, 65, 52, 66, 53, 55, 69, 55, 51, 55, 52, 55, 53, 55, 54, 55, 55, 55, 56, 55, 57, 55, 65, 65, 49, 66, 70, 68, 48, 68, 68, 68, 69, 65, 69, 53, 69, 65, 51, 65, 53, 66, 55, 65, 57, 65, 55, 66, 54, 66, 67, 66, 68, 66, 69, 53, 66, 53, 68, 65, 70, 65, 56, 66, 52, 68, 55, 55, 66, 52, 49, 52, 50, 52, 51, 52, 52, 52, 53, 52, 54, 52, 55, 52, 56, 52, 57, 65, 68, 70, 52, 70, 54, 70, 50, 70, 51, 70, 53, 55, 68, 52, 65, 52, 66, 52, 67, 52, 68, 52, 69, 52, 70, 53, 48, 53, 49, 53, 50, 66, 57, 70, 66, 70, 67, 70, 57, 70, 65, 70, 70, 53, 67, 70, 55, 53, 51, 53, 52, 53, 53, 53, 54, 53, 55, 53, 56, 53, 57, 53, 65, 66, 50, 68, 52, 68, 54, 68, 50, 68, 51, 68, 53, 51, 48, 51, 49, 51, 50, 51, 51, 51, 52, 51, 53, 51, 54, 51, 55, 51, 56, 51, 57, 66, 51, 68, 66, 68, 67, 68, 57, 68, 65, 57, 70]⟩)) w
theorem F56.eq (R : Ending → World → Prop) (w : World) : F56 R w  = shF Tryd.prog 56 [0] [] R w := by kernel_rfl
theorem F56.calls {R : Ending → World → Prop} {w : World} (h : F56 R w ) : Calls Tryd.prog 56 #[] w R := shF_sound (F56.eq R w  ▸ h)

/-- greenscreen/greenscreenref01.value -/
def F57 (R : Ending → World → Prop) (w : World) (a0 : Value) : Prop :=
  opv ((binOp .geq 5 a0 (.int .u8 65)).run Tryd.prog w) R fun t4 w =>
  cond t4 (opv ((convert 5 3 a0).run Tryd.prog w) R fun t6 w =>
  opv ((binOp .sub 3 t6 (.int .i64 55)).run Tryd.prog w) R fun t7 w =>
  R (.returned t7) w)
  (opv ((convert 5 3 a0).run Tryd.prog w) R fun t9 w =>
  opv ((binOp .sub 3 t9 (.int .i64 48)).run Tryd.prog w) R fun t10 w =>
  R (.returned t10) w)
theorem F57.eq (R : Ending → World → Prop) (w : World) (a0 : Value) : F57 R w a0 = shF Tryd.prog 57 [0,2,4] [a0] R w := by kernel_rfl
theorem F57.calls {R : Ending → World → Prop} {w : World} {a0 : Value} (h : F57 R w a0) : Calls Tryd.prog 57 #[a0] w R := shF_sound (F57.eq R w a0 ▸ h)

/-- greenscreen/code.swaps -/
def F59 (R : Ending → World → Prop) (w : World) (a0 : Value) : Prop :=
  opv ((binE true .eql 3 a0 (.int .i64 500)).run Tryd.prog w) R fun t5 w =>
  cond t5 (opv ((Instr.build 105 #[(0, (.int .u8 74)), (1, (.int .u8 91))]).run Tryd.prog w) R fun t6 w =>
  opv ((Instr.build 105 #[(0, (.int .u8 79)), (1, (.int .u8 33))]).run Tryd.prog w) R fun t7 w =>
  opv ((Instr.build 105 #[(0, (.int .u8 90)), (1, (.int .u8 93))]).run Tryd.prog w) R fun t8 w =>
  opv ((Instr.build 105 #[(0, (.int .u8 95)), (1, (.int .u8 94))]).run Tryd.prog w) R fun t9 w =>
  opv ((Instr.build 105 #[(0, (.int .u8 176)), (1, (.int .u8 162))]).run Tryd.prog w) R fun t10 w =>
  opv ((Instr.build 105 #[(0, (.int .u8 186)), (1, (.int .u8 172))]).run Tryd.prog w) R fun t11 w =>
  opv ((Instr.build 105 #[(0, (.int .u8 187)), (1, (.int .u8 124))]).run Tryd.prog w) R fun t12 w =>
  opv ((Instr.buildSlice 102 7 #[(0, t6), (1, t7), (2, t8), (3, t9), (4, t10), (5, t11), (6, t12)]).run Tryd.prog w) R fun t13 w =>
  R (.returned t13) w)
  (opv ((binE true .eql 3 a0 (.int .i64 1047)).run Tryd.prog w) R fun t15 w =>
  cond t15 (opv ((Instr.build 105 #[(0, (.int .u8 95)), (1, (.int .u8 94))]).run Tryd.prog w) R fun t16 w =>
  opv ((Instr.build 105 #[(0, (.int .u8 173)), (1, (.int .u8 91))]).run Tryd.prog w) R fun t17 w =>
  opv ((Instr.build 105 #[(0, (.int .u8 176)), (1, (.int .u8 172))]).run Tryd.prog w) R fun t18 w =>
  opv ((Instr.build 105 #[(0, (.int .u8 186)), (1, (.int .u8 221))]).run Tryd.prog w) R fun t19 w =>
  opv ((Instr.build 105 #[(0, (.int .u8 187)), (1, (.int .u8 168))]).run Tryd.prog w) R fun t20 w =>
  opv ((Instr.build 105 #[(0, (.int .u8 189)), (1, (.int .u8 93))]).run Tryd.prog w) R fun t21 w =>
  opv ((Instr.buildSlice 102 6 #[(0, t16), (1, t17), (2, t18), (3, t19), (4, t20), (5, t21)]).run Tryd.prog w) R fun t22 w =>
  R (.returned t22) w)
  (R (.returned (.slice none 0 0)) w))
theorem F59.eq (R : Ending → World → Prop) (w : World) (a0 : Value) : F59 R w a0 = shF Tryd.prog 59 [0,2,3,4,14] [a0] R w := by kernel_rfl
theorem F59.calls {R : Ending → World → Prop} {w : World} {a0 : Value} (h : F59 R w a0) : Calls Tryd.prog 59 #[a0] w R := shF_sound (F59.eq R w a0 ▸ h)

end Go.Proofs.YtojcbhkhfcddnaaDoor
