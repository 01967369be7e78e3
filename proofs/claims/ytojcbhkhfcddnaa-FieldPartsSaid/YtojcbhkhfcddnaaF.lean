/-
  Shallow forms of functions of the loaded program, each tied to it. No condition.
-/
import Derived.Test.YtojcbhkhfcddnaaProg
import Derived.Test.YtojcbhkhfcddnaaShSound
import Derived.KernelRfl
namespace Go.Proofs.Ytojcbhkhfcddnaa
open Go Go.Sh
set_option linter.unusedVariables false
set_option maxRecDepth 100000
/-- greenscreen/greenscreenlaw15.made -/
def F9 (R : Ending → World → Prop) (w : World) (a0 a1 : Value) : Prop :=
  opv ((Instr.box 23 a0).run Try.prog w) R fun t2 w =>
  opv ((Instr.alloc 28 true (.tuple #[])).run Try.prog w) R fun t5 w =>
  opv ((Instr.loadAt 23 t2).run Try.prog w) R fun t14 w =>
  callF Try.prog 38 #[t14] w R fun t15 w =>
  opv ((Instr.extract t15 0).run Try.prog w) R fun t16 w =>
  opv ((Instr.extract t15 1).run Try.prog w) R fun t17 w =>
  opv ((Instr.alloc 28 true (.tuple #[])).run Try.prog w) R fun t7 w =>
  opu ((Instr.storeAt 28 t7 t16).run Try.prog w) R fun _ w =>
  opv ((binE true .neq 3 t17 (.int .i64 0)).run Try.prog w) R fun t19 w =>
  gd t19 false (fun K => opv ((Instr.fieldAt 28 t7 1).run Try.prog w) R K) w fun t21 w =>
  gd t19 false (fun K => opv ((Instr.loadAt 24 t21).run Try.prog w) R K) w fun t22 w =>
  gd t19 false (fun K => opv ((Builtin.len_ #[24] 3 #[t22]).run Try.prog w) R K) w fun t23 w =>
  gd t19 false (fun K => opv ((binOp .gtr 3 t23 (.int .i64 120)).run Try.prog w) R K) w fun t24 w =>
  pick t19 (.bool true) t24 w fun t25 w =>
  cond t25 (drawn w fun T w =>
  qop T w (fun w K => opv ((Instr.loadAt 28 t7).run Try.prog w) noR K) fun t26 =>
  ext w fun w =>
  opu ((Instr.storeAt 28 t5 t26).run Try.prog w) R fun _ w =>
  ext w fun w =>
  ldv ((Instr.loadAt 28 t5).run Try.prog w) w fun r1 =>
  R (.returned (.tuple #[(.pointer none), r1, (.bool false)])) w)
  (opv ((Instr.loadAt 23 t2).run Try.prog w) R fun t28 w =>
  callF Try.prog 36 #[t28] w R fun t29 w =>
  opv ((Instr.extract t29 0).run Try.prog w) R fun t30 w =>
  opv ((Instr.extract t29 1).run Try.prog w) R fun t31 w =>
  join (upd (upd (upd (upd (upd (upd (upd (upd (ini [a0, a1]) 2 t2) 4 (.pointer none)) 5 t5) 6 (.bool false)) 7 t7) 8 t17) 25 t25) 9 t30) (fun j1 =>
  opv ((Builtin.len_ #[24] 3 #[a1]).run Try.prog w) R fun t33 w =>
  loop (upd (upd (upd (upd (upd (upd (upd (upd (upd (upd (upd (ini [a0, a1]) 2 t2) 4 (.pointer none)) 5 t5) 6 (.bool false)) 7 t7) 8 t17) 25 t25) 9 t30) 32 a1) 33 t33) 34 (.int .i64 0)) w fun e2 g2 w j2 =>
  opv ((binOp .lss 3 (g2 34) t33).run Try.prog w) R fun t35 w =>
  cond t35 (join (upd (mix [35,12,11,43,34] g2 e2) 35 t35) (fun j3 =>
  opv ((Instr.indexAt 24 a1 (g2 34)).run Try.prog w) R fun t37 w =>
  opv ((Instr.loadAt 45 t37).run Try.prog w) R fun t38 w =>
  opv ((Instr.alloc 45 true (.tuple #[])).run Try.prog w) R fun t12 w =>
  opu ((Instr.storeAt 45 t12 t38).run Try.prog w) R fun _ w =>
  opv ((Instr.fieldAt 28 t7 1).run Try.prog w) R fun t40 w =>
  opv ((Instr.loadAt 24 t40).run Try.prog w) R fun t41 w =>
  opv ((Builtin.len_ #[24] 3 #[t41]).run Try.prog w) R fun t42 w =>
  opv ((binOp .lss 3 (g2 34) t42).run Try.prog w) R fun t43 w =>
  cond t43 (opv ((Instr.loadAt 45 t12).run Try.prog w) R fun t46 w =>
  callF Try.prog 37 #[t30, (g2 34), t46] w R fun t47 w =>
  opv ((Instr.fieldAt 28 t7 1).run Try.prog w) R fun t48 w =>
  opv ((Instr.loadAt 24 t48).run Try.prog w) R fun t49 w =>
  opv ((Instr.loadAt 45 t12).run Try.prog w) R fun t51 w =>
  opv ((Instr.indexAt 24 t49 (g2 34)).run Try.prog w) R fun t52 w =>
  opu ((Instr.storeAt 45 t52 t51).run Try.prog w) R fun _ w =>
  j3 (upd (upd (upd (upd (mix [35,12,11,43,34] g2 e2) 35 t35) 12 t12) 11 (g2 34)) 43 t43) w)
  (j3 (upd (upd (upd (upd (mix [35,12,11,43,34] g2 e2) 35 t35) 12 t12) 11 (g2 34)) 43 t43) w)) fun e3 g3 w =>
  opv ((binOp .add 3 (g2 34) (.int .i64 1)).run Try.prog w) R fun t53 w =>
  j2 (upd (mix [12,11,43] g3 e3) 34 t53) w)
  (j1 (upd (mix [35,12,11,43,34] g2 e2) 35 t35) w)) fun e1 g1 w =>
  drawn w fun T w =>
  qop T w (fun w K => opv ((Instr.loadAt 28 t7).run Try.prog w) noR K) fun t55 =>
  ext w fun w =>
  opu ((Instr.storeAt 28 t5 t55).run Try.prog w) R fun _ w =>
  ext w fun w =>
  ldv ((Instr.loadAt 28 t5).run Try.prog w) w fun r1 =>
  R (.returned (.tuple #[t30, r1, (.bool true)])) w)
theorem F9.eq (R : Ending → World → Prop) (w : World) (a0 a1 : Value) : F9 R w a0 a1 = shF Try.prog 9 [0,1,2,4,5,6,7,8,9,11,12,25,32,33,34,35,43] [a0, a1] R w := by kernel_rfl
theorem F9.calls {R : Ending → World → Prop} {w : World} {a0 a1 : Value} (h : F9 R w a0 a1) : Calls Try.prog 9 #[a0, a1] w R := shF_sound (F9.eq R w a0 a1 ▸ h)

/-- greenscreen/greenscreenref15.All -/
def F10 (R : Ending → World → Prop) (w : World) (a0 : Value) : Prop :=
  opv ((Instr.box 28 a0).run Try.prog w) R fun t1 w =>
  opv ((Instr.buildSlice 31 0 #[]).run Try.prog w) R fun t7 w =>
  opv ((Instr.loadAt 28 t1).run Try.prog w) R fun t8 w =>
  callF Try.prog 39 #[t8] w R fun t9 w =>
  join (upd (upd (upd (upd (ini [a0]) 1 t1) 2 (.slice none 0 0)) 3 t7) 4 t9) (fun j1 =>
  loop (upd (upd (upd (upd (upd (ini [a0]) 1 t1) 2 (.slice none 0 0)) 3 t7) 4 t9) 5 (.int .i64 0)) w fun e2 g2 w j2 =>
  opv ((Builtin.len_ #[41] 3 #[t9]).run Try.prog w) R fun t12 w =>
  opv ((binOp .lss 3 (g2 5) t12).run Try.prog w) R fun t13 w =>
  cond t13 (drawn w fun T w =>
  qop T w (fun w K => opv ((Instr.indexAt 41 t9 (.int .i64 0)).run Try.prog w) noR K) fun t17 =>
  qop T w (fun w K => opv ((Instr.loadAt 3 t17).run Try.prog w) noR K) fun t18 =>
  qop T w (fun w K => opv ((Instr.fieldAt 28 t1 1).run Try.prog w) noR K) fun t19 =>
  qop T w (fun w K => opv ((Instr.loadAt 24 t19).run Try.prog w) noR K) fun t20 =>
  qop T w (fun w K => opv ((Builtin.len_ #[24] 3 #[t20]).run Try.prog w) noR K) fun t21 =>
  qop T w (fun w K => opv ((binOp .add 3 t18 t21).run Try.prog w) noR K) fun t22 =>
  ext w fun w =>
  join (upd (upd (mix [13,27,6,3,5] g2 e2) 13 t13) 6 t22) (fun j3 =>
  opv ((binOp .add 3 (g2 5) (.int .i64 1)).run Try.prog w) R fun t24 w =>
  opv ((Builtin.len_ #[41] 3 #[t9]).run Try.prog w) R fun t26 w =>
  opv ((binOp .lss 3 t24 t26).run Try.prog w) R fun t27 w =>
  cond t27 (opv ((binOp .add 3 (g2 5) (.int .i64 1)).run Try.prog w) R fun t30 w =>
  opv ((Instr.indexAt 41 t9 t30).run Try.prog w) R fun t31 w =>
  opv ((Instr.loadAt 3 t31).run Try.prog w) R fun t32 w =>
  j3 (upd (upd (upd (upd (mix [13,27,6,3,5] g2 e2) 13 t13) 6 t22) 27 t27) 6 t32) w)
  (j3 (upd (upd (upd (mix [13,27,6,3,5] g2 e2) 13 t13) 6 t22) 27 t27) w)) fun e3 g3 w =>
  drawn w fun T w =>
  qop T w (fun w K => opv ((Instr.indexAt 41 t9 (g2 5)).run Try.prog w) noR K) fun t36 =>
  qop T w (fun w K => opv ((Instr.loadAt 3 t36).run Try.prog w) noR K) fun t37 =>
  qop T w (fun w K => opv ((Instr.indexAt 41 t9 (g2 5)).run Try.prog w) noR K) fun t41 =>
  qop T w (fun w K => opv ((Instr.loadAt 3 t41).run Try.prog w) noR K) fun t42 =>
  qop T w (fun w K => opv ((binOp .sub 3 (g3 6) t42).run Try.prog w) noR K) fun t43 =>
  qop T w (fun w K => opv ((binOp .sub 3 t43 (.int .i64 1)).run Try.prog w) noR K) fun t44 =>
  qop T w (fun w K => opv ((Instr.fieldAt 28 t1 1).run Try.prog w) noR K) fun t45 =>
  qop T w (fun w K => opv ((Instr.loadAt 24 t45).run Try.prog w) noR K) fun t46 =>
  qop T w (fun w K => opv ((Instr.indexAt 41 t9 (g2 5)).run Try.prog w) noR K) fun t49 =>
  qop T w (fun w K => opv ((Instr.loadAt 3 t49).run Try.prog w) noR K) fun t50 =>
  qop T w (fun w K => opv ((Instr.indexAt 24 t46 t50).run Try.prog w) noR K) fun t51 =>
  qop T w (fun w K => opv ((Instr.fieldAt 45 t51 0).run Try.prog w) noR K) fun t52 =>
  qop T w (fun w K => opv ((Instr.loadAt 5 t52).run Try.prog w) noR K) fun t53 =>
  qop T w (fun w K => opv ((binOp .rem 5 t53 (.int .u8 64)).run Try.prog w) noR K) fun t54 =>
  qop T w (fun w K => opv ((Instr.build 40 #[(0, t37), (1, t44), (2, t54)]).run Try.prog w) noR K) fun t55 =>
  ext w fun w =>
  lop T w (fun w K => opv ((Instr.buildSlice 31 1 #[(0, t55)]).run Try.prog w) R K) fun t56 w =>
  ext w fun w =>
  lop T w (fun w K => opv ((Builtin.append_ #[31, 31] 31 #[(g2 3), t56]).run Try.prog w) R K) fun t57 w =>
  ext w fun w =>
  opv ((binOp .add 3 (g2 5) (.int .i64 1)).run Try.prog w) R fun t15 w =>
  j2 (upd (upd (mix [27,6] g3 e3) 3 t57) 5 t15) w)
  (j1 (upd (mix [13,27,6,3,5] g2 e2) 13 t13) w)) fun e1 g1 w =>
  R (.returned (g1 3)) w
theorem F10.eq (R : Ending → World → Prop) (w : World) (a0 : Value) : F10 R w a0 = shF Try.prog 10 [0,1,2,3,4,5,6,13,27] [a0] R w := by kernel_rfl
theorem F10.calls {R : Ending → World → Prop} {w : World} {a0 : Value} (h : F10 R w a0) : Calls Try.prog 10 #[a0] w R := shF_sound (F10.eq R w a0 ▸ h)

/-- greenscreen/greenscreenlaw15.all -/
def F11 (R : Ending → World → Prop) (w : World) (a0 a1 : Value) : Prop :=
  opv ((Instr.box 3 a1).run Try.prog w) (noP R) fun t3 w =>
  opv ((Instr.buildSlice 33 0 #[]).run Try.prog w) (noP R) fun t7 w =>
  opv ((Instr.alloc 33 true (.tuple #[])).run Try.prog w) (noP R) fun t5 w =>
  opu ((Instr.storeAt 33 t5 t7).run Try.prog w) (noP R) fun _ w =>
  join (upd (upd (upd (ini [a0, a1]) 3 t3) 4 (.slice none 0 0)) 5 t5) (fun j1 =>
  callF Try.prog 40 #[a0] w (noP R) fun t9 w =>
  rangeF Try.prog t9 1 w (fun xs2 w mid2 fin2 =>
  opv ((Instr.alloc 39 true (.tuple #[])).run Try.prog w) noR fun t6 w =>
  opu ((Instr.storeAt 39 t6 (xs2.getD 0 undef)).run Try.prog w) noR fun _ w =>
  mid2 (fun w => opv ((Instr.loadAt 33 t5).run Try.prog w) noR fun t11 w =>
  opv ((Instr.loadAt 39 t6).run Try.prog w) noR fun t12 w =>
  opv ((Instr.buildSlice 33 1 #[(0, t12)]).run Try.prog w) noR fun t13 w =>
  opv ((Builtin.append_ #[33, 33] 33 #[t11, t13]).run Try.prog w) noR fun t14 w =>
  opu ((Instr.storeAt 33 t5 t14).run Try.prog w) noR fun _ w =>
  opv ((Instr.loadAt 33 t5).run Try.prog w) noR fun t15 w =>
  opv ((Builtin.len_ #[33] 3 #[t15]).run Try.prog w) noR fun t16 w =>
  opv ((Instr.loadAt 3 t3).run Try.prog w) noR fun t17 w =>
  opv ((binE false .eql 3 t16 t17).run Try.prog w) noR fun t18 w =>
  cond t18 (fin2 (.exit 0) w)
  (fin2 .normal w)) w)
  (fun D w => j1 (upd (upd (upd (upd (upd (ini [a0, a1]) 3 t3) 4 (.slice none 0 0)) 5 t5) 9 t9) 1000000 (mkV D undef)) w)
  [(1, fun D w => j1 (upd (upd (upd (upd (upd (ini [a0, a1]) 3 t3) 4 (.slice none 0 0)) 5 t5) 9 t9) 1000000 (mkV D undef)) w)]) fun e1 g1 w =>
  opv ((Instr.loadAt 33 t5).run Try.prog w) (noP R) fun t19 w =>
  leaveM (mkD (g1 1000000)) w fun w => R (.returned t19) w
theorem F11.eq (R : Ending → World → Prop) (w : World) (a0 a1 : Value) : F11 R w a0 a1 = shF Try.prog 11 [0,1,3,4,5,6,9,10,18] [a0, a1] R w := by kernel_rfl
theorem F11.calls {R : Ending → World → Prop} {w : World} {a0 a1 : Value} (h : F11 R w a0 a1) : Calls Try.prog 11 #[a0, a1] w R := shF_sound (F11.eq R w a0 a1 ▸ h)

/-- greenscreen/field.Formatted -/
def F12 (R : Ending → World → Prop) (w : World) (a0 : Value) : Prop :=
  callF Try.prog 41 #[a0, (.int .i64 0), (.int .i64 1)] w R fun t4 w =>
  opv ((binOp .geq 3 t4 (.int .i64 0)).run Try.prog w) R fun t5 w =>
  R (.returned t5) w
theorem F12.eq (R : Ending → World → Prop) (w : World) (a0 : Value) : F12 R w a0 = shF Try.prog 12 [0,2] [a0] R w := by kernel_rfl
theorem F12.calls {R : Ending → World → Prop} {w : World} {a0 : Value} (h : F12 R w a0) : Calls Try.prog 12 #[a0] w R := shF_sound (F12.eq R w a0 ▸ h)

/-- greenscreen/field.Home -/
def F13 (R : Ending → World → Prop) (w : World) (a0 : Value) : Prop :=
  opv ((Instr.box 26 a0).run Try.prog w) (noP R) fun t1 w =>
  opv ((Instr.alloc 3 true (.tuple #[])).run Try.prog w) (noP R) fun t2 w =>
  join (upd (upd (ini [a0]) 1 t1) 2 t2) (fun j1 =>
  opv ((Instr.loadAt 26 t1).run Try.prog w) (noP R) fun t4 w =>
  callF Try.prog 40 #[t4] w (noP R) fun t5 w =>
  rangeF Try.prog t5 1 w (fun xs2 w mid2 fin2 =>
  opv ((Instr.alloc 39 true (.tuple #[])).run Try.prog w) noR fun t3 w =>
  opu ((Instr.storeAt 39 t3 (xs2.getD 0 undef)).run Try.prog w) noR fun _ w =>
  mid2 (fun w => opv ((Instr.fieldAt 39 t3 1).run Try.prog w) noR fun t7 w =>
  opv ((Instr.loadAt 3 t7).run Try.prog w) noR fun t8 w =>
  opv ((binOp .gtr 3 t8 (.int .i64 0)).run Try.prog w) noR fun t9 w =>
  gd t9 true (fun K => opv ((Instr.fieldAt 39 t3 2).run Try.prog w) noR K) w fun t11 w =>
  gd t9 true (fun K => opv ((Instr.loadAt 5 t11).run Try.prog w) noR K) w fun t12 w =>
  gd t9 true (fun K => callF Try.prog 42 #[t12] w noR K) w fun t13 w =>
  gd t9 true (fun K => opv ((Op.unary .not t13).run Try.prog w) noR K) w fun t14 w =>
  pick t9 t14 (.bool false) w fun t15 w =>
  cond t15 (drawn w fun T w =>
  qop T w (fun w K => opv ((Instr.loadAt 26 t1).run Try.prog w) noR K) fun t16 =>
  qop T w (fun w K => callF Try.prog 44 #[t16] w noR K) fun t17 =>
  qop T w (fun w K => opv ((Instr.fieldAt 39 t3 0).run Try.prog w) noR K) fun t18 =>
  qop T w (fun w K => opv ((Instr.loadAt 3 t18).run Try.prog w) noR K) fun t19 =>
  qop T w (fun w K => callF Try.prog 43 #[t17, t19, (.int .i64 1)] w noR K) fun t20 =>
  ext w fun w =>
  opu ((Instr.storeAt 3 t2 t20).run Try.prog w) noR fun _ w =>
  ext w fun w =>
  fin2 .ret w)
  (fin2 .normal w)) w)
  (fun D w => j1 (upd (upd (upd (upd (ini [a0]) 1 t1) 2 t2) 5 t5) 1000000 (mkV D undef)) w)
  [(0, fun D w => leaveM (mkD (mkV D undef)) w fun w => ldv ((Instr.loadAt 3 t2).run Try.prog w) w fun r0 =>
  R (.returned r0) w)]) fun e1 g1 w =>
  opu ((Instr.storeAt 3 t2 (.int .i64 0)).run Try.prog w) (noP R) fun _ w =>
  leaveM (mkD (g1 1000000)) w fun w => ldv ((Instr.loadAt 3 t2).run Try.prog w) w fun r0 =>
  R (.returned r0) w
theorem F13.eq (R : Ending → World → Prop) (w : World) (a0 : Value) : F13 R w a0 = shF Try.prog 13 [0,1,2,3,5,6,15] [a0] R w := by kernel_rfl
theorem F13.calls {R : Ending → World → Prop} {w : World} {a0 : Value} (h : F13 R w a0) : Calls Try.prog 13 #[a0] w R := shF_sound (F13.eq R w a0 ▸ h)

/-- greenscreen/greenscreenref15.Home -/
def F14 (R : Ending → World → Prop) (w : World) (a0 : Value) : Prop :=
  opv ((Instr.box 28 a0).run Try.prog w) R fun t1 w =>
  opv ((Instr.loadAt 28 t1).run Try.prog w) R fun t5 w =>
  callF Try.prog 10 #[t5] w R fun t6 w =>
  join (upd (upd (upd (ini [a0]) 1 t1) 2 (.int .i64 0)) 3 t6) (fun j1 =>
  loop (upd (upd (upd (upd (ini [a0]) 1 t1) 2 (.int .i64 0)) 3 t6) 4 (.int .i64 0)) w fun e2 g2 w j2 =>
  opv ((Builtin.len_ #[31] 3 #[t6]).run Try.prog w) R fun t9 w =>
  opv ((binOp .lss 3 (g2 4) t9).run Try.prog w) R fun t10 w =>
  cond t10 (opv ((Instr.indexAt 31 t6 (g2 4)).run Try.prog w) R fun t15 w =>
  opv ((Instr.fieldAt 40 t15 1).run Try.prog w) R fun t16 w =>
  opv ((Instr.loadAt 3 t16).run Try.prog w) R fun t17 w =>
  opv ((binOp .gtr 3 t17 (.int .i64 0)).run Try.prog w) R fun t18 w =>
  gd t18 true (fun K => K t6 w) w fun t20 w =>
  gd t18 true (fun K => K (g2 4) w) w fun t21 w =>
  gd t18 true (fun K => opv ((Instr.indexAt 31 t20 t21).run Try.prog w) R K) w fun t22 w =>
  gd t18 true (fun K => opv ((Instr.fieldAt 40 t22 2).run Try.prog w) R K) w fun t23 w =>
  gd t18 true (fun K => opv ((Instr.loadAt 5 t23).run Try.prog w) R K) w fun t24 w =>
  gd t18 true (fun K => callF Try.prog 45 #[t24, (.int .i64 32)] w R K) w fun t25 w =>
  gd t18 true (fun K => opv ((Op.unary .not t25).run Try.prog w) R K) w fun t26 w =>
  pick t18 t26 (.bool false) w fun t27 w =>
  cond t27 (drawn w fun T w =>
  qop T w (fun w K => opv ((Instr.indexAt 31 t6 (g2 4)).run Try.prog w) noR K) fun t30 =>
  qop T w (fun w K => opv ((Instr.fieldAt 40 t30 0).run Try.prog w) noR K) fun t31 =>
  qop T w (fun w K => opv ((Instr.loadAt 3 t31).run Try.prog w) noR K) fun t32 =>
  qop T w (fun w K => opv ((binOp .add 3 t32 (.int .i64 1)).run Try.prog w) noR K) fun t33 =>
  qop T w (fun w K => opv ((Instr.fieldAt 28 t1 1).run Try.prog w) noR K) fun t34 =>
  qop T w (fun w K => opv ((Instr.loadAt 24 t34).run Try.prog w) noR K) fun t35 =>
  qop T w (fun w K => opv ((Builtin.len_ #[24] 3 #[t35]).run Try.prog w) noR K) fun t36 =>
  qop T w (fun w K => opv ((binOp .rem 3 t33 t36).run Try.prog w) noR K) fun t37 =>
  ext w fun w =>
  R (.returned t37) w)
  (opv ((binOp .add 3 (g2 4) (.int .i64 1)).run Try.prog w) R fun t12 w =>
  j2 (upd (upd (upd (mix [10,27,2,4] g2 e2) 10 t10) 27 t27) 4 t12) w))
  (j1 (upd (mix [10,27,2,4] g2 e2) 10 t10) w)) fun e1 g1 w =>
  R (.returned (.int .i64 0)) w
theorem F14.eq (R : Ending → World → Prop) (w : World) (a0 : Value) : F14 R w a0 = shF Try.prog 14 [0,1,2,3,4,10,27] [a0] R w := by kernel_rfl
theorem F14.calls {R : Ending → World → Prop} {w : World} {a0 : Value} (h : F14 R w a0) : Calls Try.prog 14 #[a0] w R := shF_sound (F14.eq R w a0 ▸ h)

/-- greenscreen/greenscreenref15.Places -/
def F15 (R : Ending → World → Prop) (w : World) (a0 a1 : Value) : Prop :=
  opv ((Instr.box 28 a0).run Try.prog w) R fun t2 w =>
  opv ((Instr.box 40 a1).run Try.prog w) R fun t3 w =>
  opv ((Instr.buildSlice 41 0 #[]).run Try.prog w) R fun t8 w =>
  opv ((Instr.loadAt 28 t2).run Try.prog w) R fun t9 w =>
  opv ((Instr.fieldAt 40 t3 0).run Try.prog w) R fun t10 w =>
  opv ((Instr.loadAt 3 t10).run Try.prog w) R fun t11 w =>
  callF Try.prog 46 #[t9, t11] w R fun t12 w =>
  opv ((Op.unary .not t12).run Try.prog w) R fun t13 w =>
  cond t13 (R (.returned t8) w)
  (opv ((Instr.fieldAt 40 t3 1).run Try.prog w) R fun t15 w =>
  opv ((Instr.loadAt 3 t15).run Try.prog w) R fun t16 w =>
  opv ((Instr.fieldAt 28 t2 1).run Try.prog w) R fun t17 w =>
  opv ((Instr.loadAt 24 t17).run Try.prog w) R fun t18 w =>
  opv ((Builtin.len_ #[24] 3 #[t18]).run Try.prog w) R fun t19 w =>
  callF Try.prog 47 #[t16, (.int .i64 0), t19] w R fun t20 w =>
  join (upd (upd (upd (upd (upd (upd (ini [a0, a1]) 2 t2) 3 t3) 4 (.slice none 0 0)) 5 t8) 13 t13) 6 t20) (fun j1 =>
  loop (upd (upd (upd (upd (upd (upd (upd (ini [a0, a1]) 2 t2) 3 t3) 4 (.slice none 0 0)) 5 t8) 13 t13) 6 t20) 7 (.int .i64 1)) w fun e2 g2 w j2 =>
  opv ((binOp .leq 3 (g2 7) t20).run Try.prog w) R fun t23 w =>
  cond t23 (opv ((Instr.fieldAt 40 t3 0).run Try.prog w) R fun t27 w =>
  opv ((Instr.loadAt 3 t27).run Try.prog w) R fun t28 w =>
  opv ((binOp .add 3 t28 (g2 7)).run Try.prog w) R fun t30 w =>
  opv ((Instr.fieldAt 28 t2 1).run Try.prog w) R fun t31 w =>
  opv ((Instr.loadAt 24 t31).run Try.prog w) R fun t32 w =>
  opv ((Builtin.len_ #[24] 3 #[t32]).run Try.prog w) R fun t33 w =>
  opv ((binOp .rem 3 t30 t33).run Try.prog w) R fun t34 w =>
  opv ((Instr.buildSlice 41 1 #[(0, t34)]).run Try.prog w) R fun t35 w =>
  opv ((Builtin.append_ #[41, 41] 41 #[(g2 5), t35]).run Try.prog w) R fun t36 w =>
  opv ((binOp .add 3 (g2 7) (.int .i64 1)).run Try.prog w) R fun t25 w =>
  j2 (upd (upd (upd (mix [23,5,7] g2 e2) 23 t23) 5 t36) 7 t25) w)
  (j1 (upd (mix [23,5,7] g2 e2) 23 t23) w)) fun e1 g1 w =>
  R (.returned (g1 5)) w)
theorem F15.eq (R : Ending → World → Prop) (w : World) (a0 a1 : Value) : F15 R w a0 a1 = shF Try.prog 15 [0,1,2,3,4,5,6,7,13,23] [a0, a1] R w := by kernel_rfl
theorem F15.calls {R : Ending → World → Prop} {w : World} {a0 a1 : Value} (h : F15 R w a0 a1) : Calls Try.prog 15 #[a0, a1] w R := shF_sound (F15.eq R w a0 a1 ▸ h)

/-- greenscreen/greenscreenref01.SameInts -/
def F16 (R : Ending → World → Prop) (w : World) (a0 a1 : Value) : Prop :=
  opv ((Builtin.len_ #[41] 3 #[a0]).run Try.prog w) R fun t7 w =>
  opv ((Builtin.len_ #[41] 3 #[a1]).run Try.prog w) R fun t9 w =>
  opv ((binE false .neq 3 t7 t9).run Try.prog w) R fun t10 w =>
  cond t10 (R (.returned (.bool false)) w)
  (join (upd (upd (ini [a0, a1]) 4 (.bool false)) 10 t10) (fun j1 =>
  loop (upd (upd (upd (ini [a0, a1]) 4 (.bool false)) 10 t10) 5 (.int .i64 0)) w fun e2 g2 w j2 =>
  opv ((Builtin.len_ #[41] 3 #[a0]).run Try.prog w) R fun t13 w =>
  opv ((binOp .lss 3 (g2 5) t13).run Try.prog w) R fun t14 w =>
  cond t14 (drawn w fun T w =>
  qop T w (fun w K => opv ((Instr.indexAt 41 a0 (g2 5)).run Try.prog w) noR K) fun t19 =>
  qop T w (fun w K => opv ((Instr.loadAt 3 t19).run Try.prog w) noR K) fun t20 =>
  qop T w (fun w K => opv ((Instr.indexAt 41 a1 (g2 5)).run Try.prog w) noR K) fun t23 =>
  qop T w (fun w K => opv ((Instr.loadAt 3 t23).run Try.prog w) noR K) fun t24 =>
  qop T w (fun w K => opv ((binE false .neq 3 t20 t24).run Try.prog w) noR K) fun t25 =>
  ext w fun w =>
  cond t25 (R (.returned (.bool false)) w)
  (opv ((binOp .add 3 (g2 5) (.int .i64 1)).run Try.prog w) R fun t16 w =>
  j2 (upd (upd (upd (mix [14,25,4,5] g2 e2) 14 t14) 25 t25) 5 t16) w))
  (j1 (upd (mix [14,25,4,5] g2 e2) 14 t14) w)) fun e1 g1 w =>
  R (.returned (.bool true)) w)
theorem F16.eq (R : Ending → World → Prop) (w : World) (a0 a1 : Value) : F16 R w a0 a1 = shF Try.prog 16 [0,1,4,5,10,14,25] [a0, a1] R w := by kernel_rfl
theorem F16.calls {R : Ending → World → Prop} {w : World} {a0 a1 : Value} (h : F16 R w a0 a1) : Calls Try.prog 16 #[a0, a1] w R := shF_sound (F16.eq R w a0 a1 ▸ h)

/-- greenscreen/greenscreenlaw15.places -/
def F17 (R : Ending → World → Prop) (w : World) (a0 a1 a2 : Value) : Prop :=
  opv ((Instr.box 39 a1).run Try.prog w) (noP R) fun t4 w =>
  opv ((Instr.box 3 a2).run Try.prog w) (noP R) fun t5 w =>
  opv ((Instr.buildSlice 41 0 #[]).run Try.prog w) (noP R) fun t9 w =>
  opv ((Instr.alloc 41 true (.tuple #[])).run Try.prog w) (noP R) fun t7 w =>
  opu ((Instr.storeAt 41 t7 t9).run Try.prog w) (noP R) fun _ w =>
  join (upd (upd (upd (upd (ini [a0, a1, a2]) 4 t4) 5 t5) 6 (.slice none 0 0)) 7 t7) (fun j1 =>
  opv ((Instr.loadAt 39 t4).run Try.prog w) (noP R) fun t11 w =>
  callF Try.prog 48 #[a0, t11] w (noP R) fun t12 w =>
  rangeF Try.prog t12 1 w (fun xs2 w mid2 fin2 =>
  mid2 (fun w => opv ((Instr.loadAt 41 t7).run Try.prog w) noR fun t14 w =>
  opv ((Instr.buildSlice 41 1 #[(0, (xs2.getD 0 undef))]).run Try.prog w) noR fun t16 w =>
  opv ((Builtin.append_ #[41, 41] 41 #[t14, t16]).run Try.prog w) noR fun t17 w =>
  opu ((Instr.storeAt 41 t7 t17).run Try.prog w) noR fun _ w =>
  opv ((Instr.loadAt 41 t7).run Try.prog w) noR fun t18 w =>
  opv ((Builtin.len_ #[41] 3 #[t18]).run Try.prog w) noR fun t19 w =>
  opv ((Instr.loadAt 3 t5).run Try.prog w) noR fun t20 w =>
  opv ((binE false .eql 3 t19 t20).run Try.prog w) noR fun t21 w =>
  cond t21 (fin2 (.exit 0) w)
  (fin2 .normal w)) w)
  (fun D w => j1 (upd (upd (upd (upd (upd (upd (ini [a0, a1, a2]) 4 t4) 5 t5) 6 (.slice none 0 0)) 7 t7) 12 t12) 1000000 (mkV D undef)) w)
  [(1, fun D w => j1 (upd (upd (upd (upd (upd (upd (ini [a0, a1, a2]) 4 t4) 5 t5) 6 (.slice none 0 0)) 7 t7) 12 t12) 1000000 (mkV D undef)) w)]) fun e1 g1 w =>
  opv ((Instr.loadAt 41 t7).run Try.prog w) (noP R) fun t22 w =>
  leaveM (mkD (g1 1000000)) w fun w => R (.returned t22) w
theorem F17.eq (R : Ending → World → Prop) (w : World) (a0 a1 a2 : Value) : F17 R w a0 a1 a2 = shF Try.prog 17 [0,1,2,4,5,6,7,8,12,13,21] [a0, a1, a2] R w := by kernel_rfl
theorem F17.calls {R : Ending → World → Prop} {w : World} {a0 a1 a2 : Value} (h : F17 R w a0 a1 a2) : Calls Try.prog 17 #[a0, a1, a2] w R := shF_sound (F17.eq R w a0 a1 a2 ▸ h)

/-- greenscreen/greenscreenref01.Same -/
def F18 (R : Ending → World → Prop) (w : World) (a0 a1 : Value) : Prop :=
  opv ((Builtin.len_ #[43] 3 #[a0]).run Try.prog w) R fun t7 w =>
  opv ((Builtin.len_ #[43] 3 #[a1]).run Try.prog w) R fun t9 w =>
  opv ((binE false .neq 3 t7 t9).run Try.prog w) R fun t10 w =>
  cond t10 (R (.returned (.bool false)) w)
  (join (upd (upd (ini [a0, a1]) 4 (.bool false)) 10 t10) (fun j1 =>
  loop (upd (upd (upd (ini [a0, a1]) 4 (.bool false)) 10 t10) 5 (.int .i64 0)) w fun e2 g2 w j2 =>
  opv ((Builtin.len_ #[43] 3 #[a0]).run Try.prog w) R fun t13 w =>
  opv ((binOp .lss 3 (g2 5) t13).run Try.prog w) R fun t14 w =>
  cond t14 (drawn w fun T w =>
  qop T w (fun w K => opv ((Instr.indexAt 43 a0 (g2 5)).run Try.prog w) noR K) fun t19 =>
  qop T w (fun w K => opv ((Instr.loadAt 5 t19).run Try.prog w) noR K) fun t20 =>
  qop T w (fun w K => opv ((Instr.indexAt 43 a1 (g2 5)).run Try.prog w) noR K) fun t23 =>
  qop T w (fun w K => opv ((Instr.loadAt 5 t23).run Try.prog w) noR K) fun t24 =>
  qop T w (fun w K => opv ((binE false .neq 5 t20 t24).run Try.prog w) noR K) fun t25 =>
  ext w fun w =>
  cond t25 (R (.returned (.bool false)) w)
  (opv ((binOp .add 3 (g2 5) (.int .i64 1)).run Try.prog w) R fun t16 w =>
  j2 (upd (upd (upd (mix [14,25,4,5] g2 e2) 14 t14) 25 t25) 5 t16) w))
  (j1 (upd (mix [14,25,4,5] g2 e2) 14 t14) w)) fun e1 g1 w =>
  R (.returned (.bool true)) w)
theorem F18.eq (R : Ending → World → Prop) (w : World) (a0 a1 : Value) : F18 R w a0 a1 = shF Try.prog 18 [0,1,4,5,10,14,25] [a0, a1] R w := by kernel_rfl
theorem F18.calls {R : Ending → World → Prop} {w : World} {a0 a1 : Value} (h : F18 R w a0 a1) : Calls Try.prog 18 #[a0, a1] w R := shF_sound (F18.eq R w a0 a1 ▸ h)

/-- greenscreen/field.Data -/
def F19 (R : Ending → World → Prop) (w : World) (a0 a1 : Value) : Prop :=
  opv ((Instr.box 26 a0).run Try.prog w) (noP R) fun t2 w =>
  opv ((Instr.box 39 a1).run Try.prog w) (noP R) fun t3 w =>
  opv ((Instr.alloc 43 true (.tuple #[])).run Try.prog w) (noP R) fun t5 w =>
  join (upd (upd (upd (upd (ini [a0, a1]) 2 t2) 3 t3) 4 (.slice none 0 0)) 5 t5) (fun j1 =>
  opv ((Instr.loadAt 26 t2).run Try.prog w) (noP R) fun t7 w =>
  opv ((Instr.loadAt 39 t3).run Try.prog w) (noP R) fun t8 w =>
  callF Try.prog 48 #[t7, t8] w (noP R) fun t9 w =>
  rangeF Try.prog t9 1 w (fun xs2 w mid2 fin2 =>
  mid2 (fun w => drawn w fun T w =>
  qop T w (fun w K => opv ((Instr.loadAt 43 t5).run Try.prog w) noR K) fun t11 =>
  qop T w (fun w K => opv ((Instr.loadAt 26 t2).run Try.prog w) noR K) fun t12 =>
  qop T w (fun w K => callF Try.prog 30 #[t12, (xs2.getD 0 undef)] w noR K) fun t14 =>
  qop T w (fun w K => opv ((Instr.field 45 t14 0).run Try.prog w) noR K) fun t15 =>
  ext w fun w =>
  lop T w (fun w K => opv ((Instr.buildSlice 43 1 #[(0, t15)]).run Try.prog w) noR K) fun t16 w =>
  ext w fun w =>
  lop T w (fun w K => opv ((Builtin.append_ #[43, 43] 43 #[t11, t16]).run Try.prog w) noR K) fun t17 w =>
  ext w fun w =>
  opu ((Instr.storeAt 43 t5 t17).run Try.prog w) noR fun _ w =>
  ext w fun w =>
  fin2 .normal w) w)
  (fun D w => j1 (upd (upd (upd (upd (upd (upd (ini [a0, a1]) 2 t2) 3 t3) 4 (.slice none 0 0)) 5 t5) 9 t9) 1000000 (mkV D undef)) w)
  []) fun e1 g1 w =>
  opv ((Instr.loadAt 43 t5).run Try.prog w) (noP R) fun t18 w =>
  leaveM (mkD (g1 1000000)) w fun w => R (.returned t18) w
theorem F19.eq (R : Ending → World → Prop) (w : World) (a0 a1 : Value) : F19 R w a0 a1 = shF Try.prog 19 [0,1,2,3,4,5,6,9,10] [a0, a1] R w := by kernel_rfl
theorem F19.calls {R : Ending → World → Prop} {w : World} {a0 a1 : Value} (h : F19 R w a0 a1) : Calls Try.prog 19 #[a0, a1] w R := shF_sound (F19.eq R w a0 a1 ▸ h)

/-- greenscreen/field.Text -/
def F20 (R : Ending → World → Prop) (w : World) (a0 a1 a2 : Value) : Prop :=
  opv ((Instr.box 26 a0).run Try.prog w) (noP R) fun t3 w =>
  opv ((Instr.box 3 a1).run Try.prog w) (noP R) fun t4 w =>
  opv ((Instr.box 39 a2).run Try.prog w) (noP R) fun t5 w =>
  join (upd (upd (upd (upd (ini [a0, a1, a2]) 3 t3) 4 t4) 5 t5) 6 (.string ⟨#[]⟩)) (fun j1 =>
  opv ((Instr.fieldAt 39 t5 2).run Try.prog w) (noP R) fun t10 w =>
  opv ((Instr.loadAt 5 t10).run Try.prog w) (noP R) fun t11 w =>
  callF Try.prog 49 #[t11] w (noP R) fun t12 w =>
  opv ((binE true .eql 3 t12 (.int .i64 3)).run Try.prog w) (noP R) fun t13 w =>
  cond t13 (opv ((Instr.alloc 3 true (.tuple #[])).run Try.prog w) (noP R) fun t7 w =>
  opu ((Instr.storeAt 3 t7 (.int .i64 0)).run Try.prog w) (noP R) fun _ w =>
  join (upd (upd (upd (upd (upd (upd (ini [a0, a1, a2]) 3 t3) 4 t4) 5 t5) 6 (.string ⟨#[]⟩)) 13 t13) 7 t7) (fun j2 =>
  opv ((Instr.loadAt 26 t3).run Try.prog w) (noP R) fun t14 w =>
  opv ((Instr.loadAt 39 t5).run Try.prog w) (noP R) fun t15 w =>
  callF Try.prog 48 #[t14, t15] w (noP R) fun t16 w =>
  rangeF Try.prog t16 1 w (fun xs3 w mid3 fin3 =>
  mid3 (fun w => opv ((Instr.loadAt 3 t7).run Try.prog w) noR fun t18 w =>
  opv ((binOp .add 3 t18 (.int .i64 1)).run Try.prog w) noR fun t19 w =>
  opu ((Instr.storeAt 3 t7 t19).run Try.prog w) noR fun _ w =>
  fin3 .normal w) w)
  (fun D w => j2 (upd (upd (upd (upd (upd (upd (upd (upd (ini [a0, a1, a2]) 3 t3) 4 t4) 5 t5) 6 (.string ⟨#[]⟩)) 13 t13) 7 t7) 16 t16) 1000000 (mkV D undef)) w)
  []) fun e2 g2 w =>
  opv ((Instr.loadAt 3 t7).run Try.prog w) (noP R) fun t20 w =>
  callF Try.prog 50 #[(.string ⟨#[32]⟩), t20] w (noP R) fun t21 w =>
  leaveM (mkD (g2 1000000)) w fun w => R (.returned t21) w)
  (j1 (upd (upd (upd (upd (upd (ini [a0, a1, a2]) 3 t3) 4 t4) 5 t5) 6 (.string ⟨#[]⟩)) 13 t13) w)) fun e1 g1 w =>
  opv ((Instr.alloc 93 true (.tuple #[])).run Try.prog w) (noP R) fun t8 w =>
  join (upd (mix [13,7,16,1000000,6] g1 e1) 8 t8) (fun j4 =>
  opv ((Instr.loadAt 26 t3).run Try.prog w) (noP R) fun t22 w =>
  opv ((Instr.loadAt 39 t5).run Try.prog w) (noP R) fun t23 w =>
  callF Try.prog 48 #[t22, t23] w (noP R) fun t24 w =>
  rangeF Try.prog t24 1 w (fun xs5 w mid5 fin5 =>
  mid5 (fun w => opv ((Instr.loadAt 26 t3).run Try.prog w) noR fun t26 w =>
  opv ((Instr.loadAt 3 t4).run Try.prog w) noR fun t27 w =>
  callF Try.prog 31 #[t26, t27, (xs5.getD 0 undef), (.int .i64 1)] w noR fun t29 w =>
  callF Try.prog 51 #[t8, t29] w noR fun t30 w =>
  fin5 .normal w) w)
  (fun D w => j4 (upd (upd (upd (mix [13,7,16,1000000,6] g1 e1) 8 t8) 24 t24) 1000000 (mkV D (g1 1000000))) w)
  []) fun e4 g4 w =>
  callF Try.prog 52 #[t8] w (noP R) fun t31 w =>
  leaveM (mkD (g4 1000000)) w fun w => R (.returned t31) w
theorem F20.eq (R : Ending → World → Prop) (w : World) (a0 a1 a2 : Value) : F20 R w a0 a1 a2 = shF Try.prog 20 [0,1,2,3,4,5,6,7,8,9,13,16,24,25] [a0, a1, a2] R w := by kernel_rfl
theorem F20.calls {R : Ending → World → Prop} {w : World} {a0 a1 a2 : Value} (h : F20 R w a0 a1 a2) : Calls Try.prog 20 #[a0, a1, a2] w R := shF_sound (F20.eq R w a0 a1 a2 ▸ h)

/-- greenscreen/greenscreenref15.Text -/
def F21 (R : Ending → World → Prop) (w : World) (a0 a1 a2 : Value) : Prop :=
  opv ((Instr.box 28 a0).run Try.prog w) R fun t3 w =>
  opv ((Instr.box 40 a2).run Try.prog w) R fun t5 w =>
  opv ((Instr.loadAt 28 t3).run Try.prog w) R fun t10 w =>
  opv ((Instr.loadAt 40 t5).run Try.prog w) R fun t11 w =>
  callF Try.prog 15 #[t10, t11] w R fun t12 w =>
  join (upd (upd (upd (upd (upd (ini [a0, a1, a2]) 3 t3) 5 t5) 6 (.string ⟨#[]⟩)) 7 (.string ⟨#[]⟩)) 8 t12) (fun j1 =>
  loop (upd (upd (upd (upd (upd (upd (ini [a0, a1, a2]) 3 t3) 5 t5) 6 (.string ⟨#[]⟩)) 7 (.string ⟨#[]⟩)) 8 t12) 9 (.int .i64 0)) w fun e2 g2 w j2 =>
  opv ((Builtin.len_ #[41] 3 #[t12]).run Try.prog w) R fun t15 w =>
  opv ((binOp .lss 3 (g2 9) t15).run Try.prog w) R fun t16 w =>
  cond t16 (join (upd (mix [16,22,7,9] g2 e2) 16 t16) (fun j3 =>
  opv ((Instr.fieldAt 40 t5 2).run Try.prog w) R fun t19 w =>
  opv ((Instr.loadAt 5 t19).run Try.prog w) R fun t20 w =>
  callF Try.prog 53 #[t20] w R fun t21 w =>
  opv ((binE true .eql 3 t21 (.int .i64 3)).run Try.prog w) R fun t22 w =>
  cond t22 (opv ((binOp .add 9 (g2 7) (.string ⟨#[32]⟩)).run Try.prog w) R fun t24 w =>
  j3 (upd (upd (upd (mix [16,22,7,9] g2 e2) 16 t16) 22 t22) 7 t24) w)
  (drawn w fun T w =>
  qop T w (fun w K => opv ((Instr.fieldAt 28 t3 1).run Try.prog w) noR K) fun t27 =>
  qop T w (fun w K => opv ((Instr.loadAt 24 t27).run Try.prog w) noR K) fun t28 =>
  qop T w (fun w K => opv ((Instr.indexAt 41 t12 (g2 9)).run Try.prog w) noR K) fun t31 =>
  qop T w (fun w K => opv ((Instr.loadAt 3 t31).run Try.prog w) noR K) fun t32 =>
  qop T w (fun w K => opv ((Instr.indexAt 24 t28 t32).run Try.prog w) noR K) fun t33 =>
  qop T w (fun w K => opv ((Instr.loadAt 45 t33).run Try.prog w) noR K) fun t34 =>
  qop T w (fun w K => callF Try.prog 54 #[a1, t34] w noR K) fun t35 =>
  qop T w (fun w K => opv ((binOp .add 9 (g2 7) t35).run Try.prog w) noR K) fun t36 =>
  ext w fun w =>
  j3 (upd (upd (upd (mix [16,22,7,9] g2 e2) 16 t16) 22 t22) 7 t36) w)) fun e3 g3 w =>
  opv ((binOp .add 3 (g2 9) (.int .i64 1)).run Try.prog w) R fun t18 w =>
  j2 (upd (mix [22,7] g3 e3) 9 t18) w)
  (j1 (upd (mix [16,22,7,9] g2 e2) 16 t16) w)) fun e1 g1 w =>
  R (.returned (g1 7)) w
theorem F21.eq (R : Ending → World → Prop) (w : World) (a0 a1 a2 : Value) : F21 R w a0 a1 a2 = shF Try.prog 21 [0,1,2,3,5,6,7,8,9,16,22] [a0, a1, a2] R w := by kernel_rfl
theorem F21.calls {R : Ending → World → Prop} {w : World} {a0 a1 a2 : Value} (h : F21 R w a0 a1 a2) : Calls Try.prog 21 #[a0, a1, a2] w R := shF_sound (F21.eq R w a0 a1 a2 ▸ h)

/-- greenscreen/field.Of -/
def F22 (R : Ending → World → Prop) (w : World) (a0 a1 : Value) : Prop :=
  opv ((Instr.alloc 39 true (.tuple #[])).run Try.prog w) R fun t4 w =>
  callF Try.prog 24 #[a0, a1] w R fun t9 w =>
  opv ((binOp .lss 3 t9 (.int .i64 0)).run Try.prog w) R fun t11 w =>
  cond t11 (opv ((Instr.build 39 #[]).run Try.prog w) R fun t12 w =>
  opu ((Instr.storeAt 39 t4 t12).run Try.prog w) R fun _ w =>
  ldv ((Instr.loadAt 39 t4).run Try.prog w) w fun r0 =>
  R (.returned (.tuple #[r0, (.bool false)])) w)
  (callF Try.prog 55 #[a0, t9] w R fun t15 w =>
  opu ((Instr.storeAt 39 t4 t15).run Try.prog w) R fun _ w =>
  ldv ((Instr.loadAt 39 t4).run Try.prog w) w fun r0 =>
  R (.returned (.tuple #[r0, (.bool true)])) w)
theorem F22.eq (R : Ending → World → Prop) (w : World) (a0 a1 : Value) : F22 R w a0 a1 = shF Try.prog 22 [0,1,4,5,6,11] [a0, a1] R w := by kernel_rfl
theorem F22.calls {R : Ending → World → Prop} {w : World} {a0 a1 : Value} (h : F22 R w a0 a1) : Calls Try.prog 22 #[a0, a1] w R := shF_sound (F22.eq R w a0 a1 ▸ h)

/-- greenscreen/greenscreenref15.Of -/
def F23 (R : Ending → World → Prop) (w : World) (a0 a1 : Value) : Prop :=
  opv ((Instr.box 28 a0).run Try.prog w) R fun t2 w =>
  opv ((Instr.alloc 40 true (.tuple #[])).run Try.prog w) R fun t4 w =>
  opv ((Instr.loadAt 28 t2).run Try.prog w) R fun t10 w =>
  callF Try.prog 10 #[t10] w R fun t11 w =>
  join (upd (upd (upd (upd (ini [a0, a1]) 2 t2) 4 t4) 5 (.bool false)) 6 t11) (fun j1 =>
  loop (upd (upd (upd (upd (upd (ini [a0, a1]) 2 t2) 4 t4) 5 (.bool false)) 6 t11) 7 (.int .i64 0)) w fun e2 g2 w j2 =>
  opv ((Builtin.len_ #[31] 3 #[t11]).run Try.prog w) R fun t14 w =>
  opv ((binOp .lss 3 (g2 7) t14).run Try.prog w) R fun t15 w =>
  cond t15 (join (upd (mix [15,24,8,38,46,5,9,7] g2 e2) 15 t15) (fun j3 =>
  opv ((Instr.indexAt 31 t11 (g2 7)).run Try.prog w) R fun t20 w =>
  opv ((Instr.fieldAt 40 t20 0).run Try.prog w) R fun t21 w =>
  opv ((Instr.loadAt 3 t21).run Try.prog w) R fun t22 w =>
  opv ((binE false .eql 3 t22 a1).run Try.prog w) R fun t24 w =>
  cond t24 (opv ((Instr.indexAt 31 t11 (g2 7)).run Try.prog w) R fun t27 w =>
  opv ((Instr.loadAt 40 t27).run Try.prog w) R fun t28 w =>
  opu ((Instr.storeAt 40 t4 t28).run Try.prog w) R fun _ w =>
  ldv ((Instr.loadAt 40 t4).run Try.prog w) w fun r0 =>
  R (.returned (.tuple #[r0, (.bool true)])) w)
  (drawn w fun T w =>
  qop T w (fun w K => opv ((Instr.loadAt 28 t2).run Try.prog w) noR K) fun t29 =>
  qop T w (fun w K => opv ((Instr.indexAt 31 t11 (g2 7)).run Try.prog w) noR K) fun t32 =>
  qop T w (fun w K => opv ((Instr.loadAt 40 t32).run Try.prog w) noR K) fun t33 =>
  ext w fun w =>
  lop T w (fun w K => callF Try.prog 15 #[t29, t33] w R K) fun t34 w =>
  ext w fun w =>
  loop (upd (upd (upd (upd (mix [15,24,8,38,46,5,9,7] g2 e2) 15 t15) 24 t24) 8 t34) 9 (.int .i64 0)) w fun e4 g4 w j4 =>
  opv ((Builtin.len_ #[41] 3 #[t34]).run Try.prog w) R fun t37 w =>
  opv ((binOp .lss 3 (g4 9) t37).run Try.prog w) R fun t38 w =>
  cond t38 (opv ((Instr.indexAt 41 t34 (g4 9)).run Try.prog w) R fun t43 w =>
  opv ((Instr.loadAt 3 t43).run Try.prog w) R fun t44 w =>
  opv ((binE false .eql 3 t44 a1).run Try.prog w) R fun t46 w =>
  cond t46 (opv ((Instr.indexAt 31 t11 (g2 7)).run Try.prog w) R fun t49 w =>
  opv ((Instr.loadAt 40 t49).run Try.prog w) R fun t50 w =>
  opu ((Instr.storeAt 40 t4 t50).run Try.prog w) R fun _ w =>
  ldv ((Instr.loadAt 40 t4).run Try.prog w) w fun r0 =>
  R (.returned (.tuple #[r0, (.bool true)])) w)
  (opv ((binOp .add 3 (g4 9) (.int .i64 1)).run Try.prog w) R fun t40 w =>
  j4 (upd (upd (upd (mix [38,46,5,9] g4 e4) 38 t38) 46 t46) 9 t40) w))
  (j3 (upd (mix [38,46,5,9] g4 e4) 38 t38) w))) fun e3 g3 w =>
  opv ((binOp .add 3 (g2 7) (.int .i64 1)).run Try.prog w) R fun t17 w =>
  j2 (upd (mix [24,8,38,46,5,9] g3 e3) 7 t17) w)
  (j1 (upd (mix [15,24,8,38,46,5,9,7] g2 e2) 15 t15) w)) fun e1 g1 w =>
  opv ((Instr.build 40 #[]).run Try.prog w) R fun t51 w =>
  opu ((Instr.storeAt 40 t4 t51).run Try.prog w) R fun _ w =>
  ldv ((Instr.loadAt 40 t4).run Try.prog w) w fun r0 =>
  R (.returned (.tuple #[r0, (.bool false)])) w
theorem F23.eq (R : Ending → World → Prop) (w : World) (a0 a1 : Value) : F23 R w a0 a1 = shF Try.prog 23 [0,1,2,4,5,6,7,8,9,15,24,38,46] [a0, a1] R w := by kernel_rfl
theorem F23.calls {R : Ending → World → Prop} {w : World} {a0 a1 : Value} (h : F23 R w a0 a1) : Calls Try.prog 23 #[a0, a1] w R := shF_sound (F23.eq R w a0 a1 ▸ h)

/-- greenscreen/field.Before -/
def F24 (R : Ending → World → Prop) (w : World) (a0 a1 : Value) : Prop :=
  callF Try.prog 41 #[a0, a1, (.int .i64 (-1))] w R fun t7 w =>
  R (.returned t7) w
theorem F24.eq (R : Ending → World → Prop) (w : World) (a0 a1 : Value) : F24 R w a0 a1 = shF Try.prog 24 [0,1,4] [a0, a1] R w := by kernel_rfl
theorem F24.calls {R : Ending → World → Prop} {w : World} {a0 a1 : Value} (h : F24 R w a0 a1) : Calls Try.prog 24 #[a0, a1] w R := shF_sound (F24.eq R w a0 a1 ▸ h)

/-- greenscreen/field.After -/
def F25 (R : Ending → World → Prop) (w : World) (a0 a1 : Value) : Prop :=
  opv ((binOp .lss 3 a1 (.int .i64 0)).run Try.prog w) R fun t6 w =>
  gd t6 false (fun K => K a1 w) w fun t8 w =>
  gd t6 false (fun K => K a0 w) w fun t9 w =>
  gd t6 false (fun K => callF Try.prog 29 #[t9] w R K) w fun t10 w =>
  gd t6 false (fun K => opv ((binOp .geq 3 t8 t10).run Try.prog w) R K) w fun t11 w =>
  pick t6 (.bool true) t11 w fun t12 w =>
  cond t12 (R (.returned (.int .i64 (-1))) w)
  (callF Try.prog 44 #[a0] w R fun t15 w =>
  callF Try.prog 43 #[t15, a1, (.int .i64 1)] w R fun t17 w =>
  callF Try.prog 41 #[a0, t17, (.int .i64 1)] w R fun t18 w =>
  R (.returned t18) w)
theorem F25.eq (R : Ending → World → Prop) (w : World) (a0 a1 : Value) : F25 R w a0 a1 = shF Try.prog 25 [0,1,4,12] [a0, a1] R w := by kernel_rfl
theorem F25.calls {R : Ending → World → Prop} {w : World} {a0 a1 : Value} (h : F25 R w a0 a1) : Calls Try.prog 25 #[a0, a1] w R := shF_sound (F25.eq R w a0 a1 ▸ h)

/-- greenscreen/greenscreenref15.After -/
def F26 (R : Ending → World → Prop) (w : World) (a0 a1 : Value) : Prop :=
  opv ((Instr.box 28 a0).run Try.prog w) R fun t2 w =>
  opv ((Instr.loadAt 28 t2).run Try.prog w) R fun t7 w =>
  callF Try.prog 39 #[t7] w R fun t8 w =>
  opv ((Builtin.len_ #[41] 3 #[t8]).run Try.prog w) R fun t10 w =>
  opv ((binE true .eql 3 t10 (.int .i64 0)).run Try.prog w) R fun t11 w =>
  gd t11 false (fun K => opv ((Instr.loadAt 28 t2).run Try.prog w) R K) w fun t13 w =>
  gd t11 false (fun K => K a1 w) w fun t14 w =>
  gd t11 false (fun K => callF Try.prog 46 #[t13, t14] w R K) w fun t15 w =>
  gd t11 false (fun K => opv ((Op.unary .not t15).run Try.prog w) R K) w fun t16 w =>
  pick t11 (.bool true) t16 w fun t17 w =>
  cond t17 (R (.returned (.int .i64 (-1))) w)
  (join (upd (upd (upd (upd (ini [a0, a1]) 2 t2) 4 (.int .i64 0)) 5 t8) 17 t17) (fun j1 =>
  loop (upd (upd (upd (upd (upd (ini [a0, a1]) 2 t2) 4 (.int .i64 0)) 5 t8) 17 t17) 6 (.int .i64 0)) w fun e2 g2 w j2 =>
  opv ((Builtin.len_ #[41] 3 #[t8]).run Try.prog w) R fun t20 w =>
  opv ((binOp .lss 3 (g2 6) t20).run Try.prog w) R fun t21 w =>
  cond t21 (opv ((Instr.indexAt 41 t8 (g2 6)).run Try.prog w) R fun t26 w =>
  opv ((Instr.loadAt 3 t26).run Try.prog w) R fun t27 w =>
  opv ((binOp .gtr 3 t27 a1).run Try.prog w) R fun t29 w =>
  cond t29 (opv ((Instr.indexAt 41 t8 (g2 6)).run Try.prog w) R fun t32 w =>
  opv ((Instr.loadAt 3 t32).run Try.prog w) R fun t33 w =>
  R (.returned t33) w)
  (opv ((binOp .add 3 (g2 6) (.int .i64 1)).run Try.prog w) R fun t23 w =>
  j2 (upd (upd (upd (mix [21,29,4,6] g2 e2) 21 t21) 29 t29) 6 t23) w))
  (j1 (upd (mix [21,29,4,6] g2 e2) 21 t21) w)) fun e1 g1 w =>
  opv ((Instr.indexAt 41 t8 (.int .i64 0)).run Try.prog w) R fun t35 w =>
  opv ((Instr.loadAt 3 t35).run Try.prog w) R fun t36 w =>
  R (.returned t36) w)
theorem F26.eq (R : Ending → World → Prop) (w : World) (a0 a1 : Value) : F26 R w a0 a1 = shF Try.prog 26 [0,1,2,4,5,6,17,21,29] [a0, a1] R w := by kernel_rfl
theorem F26.calls {R : Ending → World → Prop} {w : World} {a0 a1 : Value} (h : F26 R w a0 a1) : Calls Try.prog 26 #[a0, a1] w R := shF_sound (F26.eq R w a0 a1 ▸ h)

/-- greenscreen/field.Open -/
def F27 (R : Ending → World → Prop) (w : World) (a0 a1 : Value) : Prop :=
  callF Try.prog 22 #[a0, a1] w R fun t10 w =>
  opv ((Instr.extract t10 0).run Try.prog w) R fun t11 w =>
  opv ((Instr.extract t10 1).run Try.prog w) R fun t12 w =>
  opv ((Instr.alloc 39 true (.tuple #[])).run Try.prog w) R fun t5 w =>
  opu ((Instr.storeAt 39 t5 t11).run Try.prog w) R fun _ w =>
  opv ((Op.unary .not t12).run Try.prog w) R fun t14 w =>
  cond t14 (opv ((binOp .geq 3 a1 (.int .i64 0)).run Try.prog w) R fun t16 w =>
  gd t16 true (fun K => K a1 w) w fun t18 w =>
  gd t16 true (fun K => K a0 w) w fun t19 w =>
  gd t16 true (fun K => callF Try.prog 29 #[t19] w R K) w fun t20 w =>
  gd t16 true (fun K => opv ((binOp .lss 3 t18 t20).run Try.prog w) R K) w fun t21 w =>
  pick t16 t21 (.bool false) w fun t22 w =>
  R (.returned t22) w)
  (opv ((Instr.fieldAt 39 t5 0).run Try.prog w) R fun t23 w =>
  opv ((Instr.loadAt 3 t23).run Try.prog w) R fun t24 w =>
  opv ((binE false .neq 3 t24 a1).run Try.prog w) R fun t26 w =>
  gd t26 true (fun K => opv ((Instr.fieldAt 39 t5 2).run Try.prog w) R K) w fun t28 w =>
  gd t26 true (fun K => opv ((Instr.loadAt 5 t28).run Try.prog w) R K) w fun t29 w =>
  gd t26 true (fun K => callF Try.prog 42 #[t29] w R K) w fun t30 w =>
  gd t26 true (fun K => opv ((Op.unary .not t30).run Try.prog w) R K) w fun t31 w =>
  pick t26 t31 (.bool false) w fun t32 w =>
  R (.returned t32) w)
theorem F27.eq (R : Ending → World → Prop) (w : World) (a0 a1 : Value) : F27 R w a0 a1 = shF Try.prog 27 [0,1,4,5,6,14] [a0, a1] R w := by kernel_rfl
theorem F27.calls {R : Ending → World → Prop} {w : World} {a0 a1 : Value} (h : F27 R w a0 a1) : Calls Try.prog 27 #[a0, a1] w R := shF_sound (F27.eq R w a0 a1 ▸ h)

/-- greenscreen/greenscreenref15.Open -/
def F28 (R : Ending → World → Prop) (w : World) (a0 a1 : Value) : Prop :=
  opv ((Instr.box 28 a0).run Try.prog w) R fun t2 w =>
  opv ((Instr.loadAt 28 t2).run Try.prog w) R fun t7 w =>
  callF Try.prog 46 #[t7, a1] w R fun t9 w =>
  opv ((Op.unary .not t9).run Try.prog w) R fun t10 w =>
  cond t10 (R (.returned (.bool false)) w)
  (opv ((Instr.loadAt 28 t2).run Try.prog w) R fun t12 w =>
  callF Try.prog 23 #[t12, a1] w R fun t14 w =>
  opv ((Instr.extract t14 0).run Try.prog w) R fun t15 w =>
  opv ((Instr.extract t14 1).run Try.prog w) R fun t16 w =>
  opv ((Instr.alloc 40 true (.tuple #[])).run Try.prog w) R fun t5 w =>
  opu ((Instr.storeAt 40 t5 t15).run Try.prog w) R fun _ w =>
  opv ((Op.unary .not t16).run Try.prog w) R fun t18 w =>
  gd t18 false (fun K => opv ((Instr.fieldAt 40 t5 0).run Try.prog w) R K) w fun t20 w =>
  gd t18 false (fun K => opv ((Instr.loadAt 3 t20).run Try.prog w) R K) w fun t21 w =>
  gd t18 false (fun K => K a1 w) w fun t22 w =>
  gd t18 false (fun K => opv ((binE false .neq 3 t21 t22).run Try.prog w) R K) w fun t23 w =>
  gd t18 false (fun K => K t23 w) w fun t24 w =>
  gd t24 true (fun K => opv ((Instr.fieldAt 40 t5 2).run Try.prog w) R K) w fun t25 w =>
  gd t24 true (fun K => opv ((Instr.loadAt 5 t25).run Try.prog w) R K) w fun t26 w =>
  gd t24 true (fun K => callF Try.prog 45 #[t26, (.int .i64 32)] w R K) w fun t27 w =>
  gd t24 true (fun K => opv ((Op.unary .not t27).run Try.prog w) R K) w fun t28 w =>
  gd t18 false (fun K => pick t24 t28 (.bool false) w K) w fun t29 w =>
  pick t18 (.bool true) t29 w fun t30 w =>
  R (.returned t30) w)
theorem F28.eq (R : Ending → World → Prop) (w : World) (a0 a1 : Value) : F28 R w a0 a1 = shF Try.prog 28 [0,1,2,4,5,6,10] [a0, a1] R w := by kernel_rfl
theorem F28.calls {R : Ending → World → Prop} {w : World} {a0 a1 : Value} (h : F28 R w a0 a1) : Calls Try.prog 28 #[a0, a1] w R := shF_sound (F28.eq R w a0 a1 ▸ h)

/-- (*greenscreen/plane.Plane).Len -/
def F29 (R : Ending → World → Prop) (w : World) (a0 : Value) : Prop :=
  nilck a0 w fun t4 w =>
  opv ((Instr.fieldAt 102 t4 1).run Try.prog w) R fun t5 w =>
  opv ((Instr.loadAt 24 t5).run Try.prog w) R fun t6 w =>
  opv ((Builtin.len_ #[24] 3 #[t6]).run Try.prog w) R fun t7 w =>
  R (.returned t7) w
theorem F29.eq (R : Ending → World → Prop) (w : World) (a0 : Value) : F29 R w a0 = shF Try.prog 29 [0,2] [a0] R w := by kernel_rfl
theorem F29.calls {R : Ending → World → Prop} {w : World} {a0 : Value} (h : F29 R w a0) : Calls Try.prog 29 #[a0] w R := shF_sound (F29.eq R w a0 ▸ h)

/-- (*greenscreen/plane.Plane).At -/
def F30 (R : Ending → World → Prop) (w : World) (a0 a1 : Value) : Prop :=
  opv ((Instr.alloc 45 true (.tuple #[])).run Try.prog w) R fun t4 w =>
  callF Try.prog 56 #[a0, a1] w R fun t7 w =>
  opv ((Op.unary .not t7).run Try.prog w) R fun t8 w =>
  cond t8 (opv ((Instr.build 45 #[]).run Try.prog w) R fun t9 w =>
  opu ((Instr.storeAt 45 t4 t9).run Try.prog w) R fun _ w =>
  ldv ((Instr.loadAt 45 t4).run Try.prog w) w fun r0 =>
  R (.returned r0) w)
  (nilck a0 w fun t11 w =>
  opv ((Instr.fieldAt 102 t11 1).run Try.prog w) R fun t12 w =>
  opv ((Instr.loadAt 24 t12).run Try.prog w) R fun t13 w =>
  opv ((Instr.indexAt 24 t13 a1).run Try.prog w) R fun t15 w =>
  opv ((Instr.loadAt 45 t15).run Try.prog w) R fun t16 w =>
  opu ((Instr.storeAt 45 t4 t16).run Try.prog w) R fun _ w =>
  ldv ((Instr.loadAt 45 t4).run Try.prog w) w fun r0 =>
  R (.returned r0) w)
theorem F30.eq (R : Ending → World → Prop) (w : World) (a0 a1 : Value) : F30 R w a0 a1 = shF Try.prog 30 [0,1,4,8] [a0, a1] R w := by kernel_rfl
theorem F30.calls {R : Ending → World → Prop} {w : World} {a0 a1 : Value} (h : F30 R w a0 a1) : Calls Try.prog 30 #[a0, a1] w R := shF_sound (F30.eq R w a0 a1 ▸ h)

/-- (*greenscreen/plane.Plane).Text -/
def F31 (R : Ending → World → Prop) (w : World) (a0 a1 a2 a3 : Value) : Prop :=
  callF Try.prog 56 #[a0, a2] w R fun t11 w =>
  opv ((Op.unary .not t11).run Try.prog w) R fun t12 w =>
  cond t12 (R (.returned (.string ⟨#[]⟩)) w)
  (opv ((Builtin.max_ #[3, 3] 3 #[a3, (.int .i64 0)]).run Try.prog w) R fun t17 w =>
  nilck a0 w fun t19 w =>
  opv ((Instr.fieldAt 102 t19 1).run Try.prog w) R fun t20 w =>
  opv ((Instr.loadAt 24 t20).run Try.prog w) R fun t21 w =>
  opv ((Builtin.len_ #[24] 3 #[t21]).run Try.prog w) R fun t22 w =>
  opv ((Builtin.min_ #[3, 3] 3 #[t17, t22]).run Try.prog w) R fun t23 w =>
  callF Try.prog 57 #[a0, a1, a2, t23] w R fun t24 w =>
  opv ((convert 104 9 t24).run Try.prog w) R fun t25 w =>
  R (.returned t25) w)
theorem F31.eq (R : Ending → World → Prop) (w : World) (a0 a1 a2 a3 : Value) : F31 R w a0 a1 a2 a3 = shF Try.prog 31 [0,1,2,3,8,12] [a0, a1, a2, a3] R w := by kernel_rfl
theorem F31.calls {R : Ending → World → Prop} {w : World} {a0 a1 a2 a3 : Value} (h : F31 R w a0 a1 a2 a3) : Calls Try.prog 31 #[a0, a1, a2, a3] w R := shF_sound (F31.eq R w a0 a1 a2 a3 ▸ h)

/-- greenscreen/greenscreenref15.Mark -/
def F32 (R : Ending → World → Prop) (w : World) (a0 a1 a2 : Value) : Prop :=
  opv ((Instr.box 28 a0).run Try.prog w) R fun t3 w =>
  opv ((Instr.alloc 28 true (.tuple #[])).run Try.prog w) R fun t6 w =>
  opv ((Instr.loadAt 28 t3).run Try.prog w) R fun t11 w =>
  callF Try.prog 23 #[t11, a1] w R fun t13 w =>
  opv ((Instr.extract t13 0).run Try.prog w) R fun t14 w =>
  opv ((Instr.extract t13 1).run Try.prog w) R fun t15 w =>
  opv ((Instr.alloc 40 true (.tuple #[])).run Try.prog w) R fun t7 w =>
  opu ((Instr.storeAt 40 t7 t14).run Try.prog w) R fun _ w =>
  opv ((Op.unary .not t15).run Try.prog w) R fun t17 w =>
  cond t17 (opv ((Instr.loadAt 28 t3).run Try.prog w) R fun t18 w =>
  opu ((Instr.storeAt 28 t6 t18).run Try.prog w) R fun _ w =>
  ldv ((Instr.loadAt 28 t6).run Try.prog w) w fun r0 =>
  R (.returned r0) w)
  (opv ((Instr.fieldAt 28 t3 1).run Try.prog w) R fun t19 w =>
  opv ((Instr.loadAt 24 t19).run Try.prog w) R fun t20 w =>
  opv ((Instr.fieldAt 40 t7 0).run Try.prog w) R fun t21 w =>
  opv ((Instr.loadAt 3 t21).run Try.prog w) R fun t22 w =>
  opv ((Instr.indexAt 24 t20 t22).run Try.prog w) R fun t23 w =>
  opv ((Instr.loadAt 45 t23).run Try.prog w) R fun t24 w =>
  opv ((Instr.alloc 45 true (.tuple #[])).run Try.prog w) R fun t9 w =>
  opu ((Instr.storeAt 45 t9 t24).run Try.prog w) R fun _ w =>
  opv ((Instr.fieldAt 45 t9 0).run Try.prog w) R fun t25 w =>
  opv ((Instr.loadAt 5 t25).run Try.prog w) R fun t26 w =>
  callF Try.prog 58 #[t26, a2] w R fun t28 w =>
  opv ((Instr.fieldAt 45 t9 0).run Try.prog w) R fun t29 w =>
  opu ((Instr.storeAt 5 t29 t28).run Try.prog w) R fun _ w =>
  opv ((Instr.loadAt 28 t3).run Try.prog w) R fun t30 w =>
  opv ((Instr.fieldAt 40 t7 0).run Try.prog w) R fun t31 w =>
  opv ((Instr.loadAt 3 t31).run Try.prog w) R fun t32 w =>
  opv ((Instr.loadAt 45 t9).run Try.prog w) R fun t33 w =>
  callF Try.prog 59 #[t30, t32, t33] w R fun t34 w =>
  opu ((Instr.storeAt 28 t6 t34).run Try.prog w) R fun _ w =>
  ldv ((Instr.loadAt 28 t6).run Try.prog w) w fun r0 =>
  R (.returned r0) w)
theorem F32.eq (R : Ending → World → Prop) (w : World) (a0 a1 a2 : Value) : F32 R w a0 a1 a2 = shF Try.prog 32 [0,1,2,3,6,7,8,9,17] [a0, a1, a2] R w := by kernel_rfl
theorem F32.calls {R : Ending → World → Prop} {w : World} {a0 a1 a2 : Value} (h : F32 R w a0 a1 a2) : Calls Try.prog 32 #[a0, a1, a2] w R := shF_sound (F32.eq R w a0 a1 a2 ▸ h)

/-- greenscreen/field.Mark -/
def F33 (R : Ending → World → Prop) (w : World) (a0 a1 : Value) : Prop :=
  callF Try.prog 24 #[a0, a1] w R fun t8 w =>
  opv ((binOp .lss 3 t8 (.int .i64 0)).run Try.prog w) R fun t10 w =>
  cond t10 (R (.returned (.bool false)) w)
  (callF Try.prog 60 #[a0, t8, (.bool true)] w R fun t13 w =>
  R (.returned (.bool true)) w)
theorem F33.eq (R : Ending → World → Prop) (w : World) (a0 a1 : Value) : F33 R w a0 a1 = shF Try.prog 33 [0,1,4,5,10] [a0, a1] R w := by kernel_rfl
theorem F33.calls {R : Ending → World → Prop} {w : World} {a0 a1 : Value} (h : F33 R w a0 a1) : Calls Try.prog 33 #[a0, a1] w R := shF_sound (F33.eq R w a0 a1 ▸ h)

/-- greenscreen/greenscreenlaw15.same -/
def F34 (R : Ending → World → Prop) (w : World) (a0 a1 : Value) : Prop :=
  opv ((Instr.box 28 a1).run Try.prog w) R fun t3 w =>
  join (upd (upd (ini [a0, a1]) 3 t3) 4 (.bool false)) (fun j1 =>
  opv ((Instr.fieldAt 28 t3 1).run Try.prog w) R fun t6 w =>
  opv ((Instr.loadAt 24 t6).run Try.prog w) R fun t7 w =>
  opv ((Builtin.len_ #[24] 3 #[t7]).run Try.prog w) R fun t8 w =>
  loop (upd (upd (upd (upd (ini [a0, a1]) 3 t3) 4 (.bool false)) 8 t8) 9 (.int .i64 0)) w fun e2 g2 w j2 =>
  opv ((binOp .lss 3 (g2 9) t8).run Try.prog w) R fun t10 w =>
  cond t10 (drawn w fun T w =>
  qop T w (fun w K => callF Try.prog 30 #[a0, (g2 9)] w noR K) fun t14 =>
  qop T w (fun w K => opv ((Instr.fieldAt 28 t3 1).run Try.prog w) noR K) fun t15 =>
  qop T w (fun w K => opv ((Instr.loadAt 24 t15).run Try.prog w) noR K) fun t16 =>
  qop T w (fun w K => opv ((Instr.indexAt 24 t16 (g2 9)).run Try.prog w) noR K) fun t18 =>
  qop T w (fun w K => opv ((Instr.loadAt 45 t18).run Try.prog w) noR K) fun t19 =>
  qop T w (fun w K => opv ((binE false .neq 45 t14 t19).run Try.prog w) noR K) fun t20 =>
  ext w fun w =>
  cond t20 (R (.returned (.bool false)) w)
  (opv ((binOp .add 3 (g2 9) (.int .i64 1)).run Try.prog w) R fun t21 w =>
  j2 (upd (upd (upd (upd (mix [10,5,20,4,9] g2 e2) 10 t10) 5 (g2 9)) 20 t20) 9 t21) w))
  (j1 (upd (mix [10,5,20,4,9] g2 e2) 10 t10) w)) fun e1 g1 w =>
  drawn w fun T w =>
  qop T w (fun w K => callF Try.prog 29 #[a0] w noR K) fun t23 =>
  qop T w (fun w K => opv ((Instr.fieldAt 28 t3 1).run Try.prog w) noR K) fun t24 =>
  qop T w (fun w K => opv ((Instr.loadAt 24 t24).run Try.prog w) noR K) fun t25 =>
  qop T w (fun w K => opv ((Builtin.len_ #[24] 3 #[t25]).run Try.prog w) noR K) fun t26 =>
  qop T w (fun w K => opv ((binE false .eql 3 t23 t26).run Try.prog w) noR K) fun t27 =>
  qop T w (fun w K => gd t27 true (fun K => K a0 w) w K) fun t29 =>
  qop T w (fun w K => gd t27 true (fun K => callF Try.prog 61 #[t29] w noR K) w K) fun t30 =>
  qop T w (fun w K => gd t27 true (fun K => opv ((Instr.fieldAt 28 t3 2).run Try.prog w) noR K) w K) fun t31 =>
  qop T w (fun w K => gd t27 true (fun K => opv ((Instr.loadAt 3 t31).run Try.prog w) noR K) w K) fun t32 =>
  qop T w (fun w K => gd t27 true (fun K => opv ((binE false .eql 3 t30 t32).run Try.prog w) noR K) w K) fun t33 =>
  qop T w (fun w K => pick t27 t33 (.bool false) w K) fun t34 =>
  ext w fun w =>
  R (.returned t34) w
theorem F34.eq (R : Ending → World → Prop) (w : World) (a0 a1 : Value) : F34 R w a0 a1 = shF Try.prog 34 [0,1,3,4,5,8,9,10,20] [a0, a1] R w := by kernel_rfl
theorem F34.calls {R : Ending → World → Prop} {w : World} {a0 a1 : Value} (h : F34 R w a0 a1) : Calls Try.prog 34 #[a0, a1] w R := shF_sound (F34.eq R w a0 a1 ▸ h)

/-- greenscreen/field.Unmark -/
def F35 (R : Ending → World → Prop) (w : World) (a0 : Value) : Prop :=
  opv ((Instr.box 26 a0).run Try.prog w) (noP R) fun t1 w =>
  opv ((Instr.alloc 3 true (.tuple #[])).run Try.prog w) (noP R) fun t3 w =>
  opu ((Instr.storeAt 3 t3 (.int .i64 0)).run Try.prog w) (noP R) fun _ w =>
  join (upd (upd (upd (ini [a0]) 1 t1) 2 (.int .i64 0)) 3 t3) (fun j1 =>
  opv ((Instr.loadAt 26 t1).run Try.prog w) (noP R) fun t5 w =>
  callF Try.prog 40 #[t5] w (noP R) fun t6 w =>
  rangeF Try.prog t6 1 w (fun xs2 w mid2 fin2 =>
  opv ((Instr.alloc 39 true (.tuple #[])).run Try.prog w) noR fun t4 w =>
  opu ((Instr.storeAt 39 t4 (xs2.getD 0 undef)).run Try.prog w) noR fun _ w =>
  mid2 (fun w => opv ((Instr.fieldAt 39 t4 2).run Try.prog w) noR fun t8 w =>
  opv ((Instr.loadAt 5 t8).run Try.prog w) noR fun t9 w =>
  callF Try.prog 62 #[t9] w noR fun t10 w =>
  cond t10 (opv ((Instr.loadAt 3 t3).run Try.prog w) noR fun t11 w =>
  opv ((binOp .add 3 t11 (.int .i64 1)).run Try.prog w) noR fun t12 w =>
  opu ((Instr.storeAt 3 t3 t12).run Try.prog w) noR fun _ w =>
  opv ((Instr.loadAt 26 t1).run Try.prog w) noR fun t13 w =>
  opv ((Instr.fieldAt 39 t4 0).run Try.prog w) noR fun t14 w =>
  opv ((Instr.loadAt 3 t14).run Try.prog w) noR fun t15 w =>
  callF Try.prog 60 #[t13, t15, (.bool false)] w noR fun t16 w =>
  fin2 .normal w)
  (fin2 .normal w)) w)
  (fun D w => j1 (upd (upd (upd (upd (upd (ini [a0]) 1 t1) 2 (.int .i64 0)) 3 t3) 6 t6) 1000000 (mkV D undef)) w)
  []) fun e1 g1 w =>
  opv ((Instr.loadAt 3 t3).run Try.prog w) (noP R) fun t17 w =>
  leaveM (mkD (g1 1000000)) w fun w => R (.returned t17) w
theorem F35.eq (R : Ending → World → Prop) (w : World) (a0 : Value) : F35 R w a0 = shF Try.prog 35 [0,1,2,3,4,6,7,10] [a0] R w := by kernel_rfl
theorem F35.calls {R : Ending → World → Prop} {w : World} {a0 : Value} (h : F35 R w a0) : Calls Try.prog 35 #[a0] w R := shF_sound (F35.eq R w a0 ▸ h)

/-- greenscreen/plane.New -/
def F36 (R : Ending → World → Prop) (w : World) (a0 : Value) : Prop :=
  opv ((Instr.box 23 a0).run Try.prog w) R fun t1 w =>
  opv ((Instr.loadAt 23 t1).run Try.prog w) R fun t5 w =>
  callF Try.prog 63 #[t5] w R fun t6 w =>
  opv ((binE true .eql 3 t6 (.int .i64 0)).run Try.prog w) R fun t8 w =>
  cond t8 (R (.returned (.tuple #[(.pointer none), (.int .i64 1)])) w)
  (drawn w fun T w =>
  qop T w (fun w K => opv ((Instr.loadAt 23 t1).run Try.prog w) noR K) fun t9 =>
  ext w fun w =>
  lop T w (fun w K => opv ((Instr.makeSlice 24 t6 t6).run Try.prog w) R K) fun t11 w =>
  qop T w (fun w K => opv ((Instr.build 102 #[(0, t9), (1, t11)]).run Try.prog w) noR K) fun t12 =>
  ext w fun w =>
  lop T w (fun w K => opv ((Instr.box 102 t12).run Try.prog w) R K) fun t13 w =>
  ext w fun w =>
  R (.returned (.tuple #[t13, (.int .i64 0)])) w)
theorem F36.eq (R : Ending → World → Prop) (w : World) (a0 : Value) : F36 R w a0 = shF Try.prog 36 [0,1,2,3,4,8] [a0] R w := by kernel_rfl
theorem F36.calls {R : Ending → World → Prop} {w : World} {a0 : Value} (h : F36 R w a0) : Calls Try.prog 36 #[a0] w R := shF_sound (F36.eq R w a0 ▸ h)

/-- (*greenscreen/plane.Plane).Set -/
def F37 (R : Ending → World → Prop) (w : World) (a0 a1 a2 : Value) : Prop :=
  opv ((Instr.box 45 a2).run Try.prog w) R fun t5 w =>
  callF Try.prog 56 #[a0, a1] w R fun t9 w =>
  opv ((Op.unary .not t9).run Try.prog w) R fun t10 w =>
  cond t10 (R (.returned (.bool false)) w)
  (drawn w fun T w =>
  qop T w (fun w K => nilck a0 w K) fun t12 =>
  qop T w (fun w K => opv ((Instr.fieldAt 102 t12 1).run Try.prog w) noR K) fun t13 =>
  qop T w (fun w K => opv ((Instr.loadAt 24 t13).run Try.prog w) noR K) fun t14 =>
  qop T w (fun w K => opv ((Instr.loadAt 45 t5).run Try.prog w) noR K) fun t16 =>
  qop T w (fun w K => opv ((Instr.indexAt 24 t14 a1).run Try.prog w) noR K) fun t17 =>
  ext w fun w =>
  opu ((Instr.storeAt 45 t17 t16).run Try.prog w) R fun _ w =>
  ext w fun w =>
  R (.returned (.bool true)) w)
theorem F37.eq (R : Ending → World → Prop) (w : World) (a0 a1 a2 : Value) : F37 R w a0 a1 a2 = shF Try.prog 37 [0,1,2,5,6,10] [a0, a1, a2] R w := by kernel_rfl
theorem F37.calls {R : Ending → World → Prop} {w : World} {a0 a1 a2 : Value} (h : F37 R w a0 a1 a2) : Calls Try.prog 37 #[a0, a1, a2] w R := shF_sound (F37.eq R w a0 a1 a2 ▸ h)

/-- greenscreen/greenscreenref14.New -/
def F38 (R : Ending → World → Prop) (w : World) (a0 : Value) : Prop :=
  opv ((Instr.box 23 a0).run Try.prog w) R fun t1 w =>
  opv ((Instr.alloc 28 true (.tuple #[])).run Try.prog w) R fun t2 w =>
  opv ((Instr.loadAt 23 t1).run Try.prog w) R fun t5 w =>
  callF Try.prog 64 #[t5] w R fun t6 w =>
  opv ((binE true .eql 3 t6 (.int .i64 0)).run Try.prog w) R fun t8 w =>
  cond t8 (opv ((Instr.build 28 #[]).run Try.prog w) R fun t9 w =>
  opu ((Instr.storeAt 28 t2 t9).run Try.prog w) R fun _ w =>
  ldv ((Instr.loadAt 28 t2).run Try.prog w) w fun r0 =>
  R (.returned (.tuple #[r0, (.int .i64 1)])) w)
  (drawn w fun T w =>
  qop T w (fun w K => opv ((Instr.loadAt 23 t1).run Try.prog w) noR K) fun t10 =>
  ext w fun w =>
  lop T w (fun w K => opv ((Instr.makeSlice 24 t6 t6).run Try.prog w) R K) fun t12 w =>
  qop T w (fun w K => opv ((Instr.build 28 #[(0, t10), (1, t12)]).run Try.prog w) noR K) fun t13 =>
  ext w fun w =>
  opu ((Instr.storeAt 28 t2 t13).run Try.prog w) R fun _ w =>
  ext w fun w =>
  ldv ((Instr.loadAt 28 t2).run Try.prog w) w fun r0 =>
  R (.returned (.tuple #[r0, (.int .i64 0)])) w)
theorem F38.eq (R : Ending → World → Prop) (w : World) (a0 : Value) : F38 R w a0 = shF Try.prog 38 [0,1,2,3,4,8] [a0] R w := by kernel_rfl
theorem F38.calls {R : Ending → World → Prop} {w : World} {a0 : Value} (h : F38 R w a0) : Calls Try.prog 38 #[a0] w R := shF_sound (F38.eq R w a0 ▸ h)

/-- greenscreen/greenscreenref15.Starts -/
def F39 (R : Ending → World → Prop) (w : World) (a0 : Value) : Prop :=
  opv ((Instr.box 28 a0).run Try.prog w) R fun t1 w =>
  opv ((Instr.buildSlice 41 0 #[]).run Try.prog w) R fun t5 w =>
  join (upd (upd (upd (ini [a0]) 1 t1) 2 (.slice none 0 0)) 3 t5) (fun j1 =>
  loop (upd (upd (upd (upd (ini [a0]) 1 t1) 2 (.slice none 0 0)) 3 t5) 4 (.int .i64 0)) w fun e2 g2 w j2 =>
  opv ((Instr.fieldAt 28 t1 1).run Try.prog w) R fun t7 w =>
  opv ((Instr.loadAt 24 t7).run Try.prog w) R fun t8 w =>
  opv ((Builtin.len_ #[24] 3 #[t8]).run Try.prog w) R fun t9 w =>
  opv ((binOp .lss 3 (g2 4) t9).run Try.prog w) R fun t10 w =>
  cond t10 (join (upd (mix [10,18,3,4] g2 e2) 10 t10) (fun j3 =>
  opv ((Instr.fieldAt 28 t1 1).run Try.prog w) R fun t13 w =>
  opv ((Instr.loadAt 24 t13).run Try.prog w) R fun t14 w =>
  opv ((Instr.indexAt 24 t14 (g2 4)).run Try.prog w) R fun t16 w =>
  opv ((Instr.fieldAt 45 t16 2).run Try.prog w) R fun t17 w =>
  opv ((Instr.loadAt 4 t17).run Try.prog w) R fun t18 w =>
  cond t18 (opv ((Instr.buildSlice 41 1 #[(0, (g2 4))]).run Try.prog w) R fun t21 w =>
  opv ((Builtin.append_ #[41, 41] 41 #[(g2 3), t21]).run Try.prog w) R fun t22 w =>
  j3 (upd (upd (upd (mix [10,18,3,4] g2 e2) 10 t10) 18 t18) 3 t22) w)
  (j3 (upd (upd (mix [10,18,3,4] g2 e2) 10 t10) 18 t18) w)) fun e3 g3 w =>
  opv ((binOp .add 3 (g2 4) (.int .i64 1)).run Try.prog w) R fun t12 w =>
  j2 (upd (mix [18,3] g3 e3) 4 t12) w)
  (j1 (upd (mix [10,18,3,4] g2 e2) 10 t10) w)) fun e1 g1 w =>
  R (.returned (g1 3)) w
theorem F39.eq (R : Ending → World → Prop) (w : World) (a0 : Value) : F39 R w a0 = shF Try.prog 39 [0,1,2,3,4,10,18] [a0] R w := by kernel_rfl
theorem F39.calls {R : Ending → World → Prop} {w : World} {a0 : Value} (h : F39 R w a0) : Calls Try.prog 39 #[a0] w R := shF_sound (F39.eq R w a0 ▸ h)

/-- greenscreen/field.All -/
def F40 (R : Ending → World → Prop) (w : World) (a0 : Value) : Prop :=
  opv ((Instr.box 26 a0).run Try.prog w) R fun t1 w =>
  opv ((Instr.makeFunc (.func 65) #[] #[t1]).run Try.prog w) R fun t3 w =>
  R (.returned t3) w
theorem F40.eq (R : Ending → World → Prop) (w : World) (a0 : Value) : F40 R w a0 = shF Try.prog 40 [0,1,2] [a0] R w := by kernel_rfl
theorem F40.calls {R : Ending → World → Prop} {w : World} {a0 : Value} (h : F40 R w a0) : Calls Try.prog 40 #[a0] w R := shF_sound (F40.eq R w a0 ▸ h)

/-- greenscreen/field.look -/
def F41 (R : Ending → World → Prop) (w : World) (a0 a1 a2 : Value) : Prop :=
  opv ((binOp .lss 3 a1 (.int .i64 0)).run Try.prog w) R fun t10 w =>
  gd t10 false (fun K => K a1 w) w fun t12 w =>
  gd t10 false (fun K => K a0 w) w fun t13 w =>
  gd t10 false (fun K => callF Try.prog 29 #[t13] w R K) w fun t14 w =>
  gd t10 false (fun K => opv ((binOp .geq 3 t12 t14).run Try.prog w) R K) w fun t15 w =>
  pick t10 (.bool true) t15 w fun t16 w =>
  cond t16 (R (.returned (.int .i64 (-1))) w)
  (join (upd (upd (ini [a0, a1, a2]) 6 (.int .i64 0)) 16 t16) (fun j1 =>
  callF Try.prog 29 #[a0] w R fun t18 w =>
  loop (upd (upd (upd (upd (ini [a0, a1, a2]) 6 (.int .i64 0)) 16 t16) 18 t18) 19 (.int .i64 0)) w fun e2 g2 w j2 =>
  opv ((binOp .lss 3 (g2 19) t18).run Try.prog w) R fun t20 w =>
  cond t20 (callF Try.prog 44 #[a0] w R fun t23 w =>
  opv ((binOp .mul 3 (g2 19) a2).run Try.prog w) R fun t27 w =>
  callF Try.prog 43 #[t23, a1, t27] w R fun t28 w =>
  callF Try.prog 30 #[a0, t28] w R fun t31 w =>
  opv ((Instr.field 45 t31 2).run Try.prog w) R fun t32 w =>
  cond t32 (R (.returned t28) w)
  (opv ((binOp .add 3 (g2 19) (.int .i64 1)).run Try.prog w) R fun t34 w =>
  j2 (upd (upd (upd (upd (upd (mix [20,7,8,32,6,19] g2 e2) 20 t20) 7 (g2 19)) 8 t28) 32 t32) 19 t34) w))
  (j1 (upd (mix [20,7,8,32,6,19] g2 e2) 20 t20) w)) fun e1 g1 w =>
  R (.returned (.int .i64 (-1))) w)
theorem F41.eq (R : Ending → World → Prop) (w : World) (a0 a1 a2 : Value) : F41 R w a0 a1 a2 = shF Try.prog 41 [0,1,2,6,7,8,16,18,19,20,32] [a0, a1, a2] R w := by kernel_rfl
theorem F41.calls {R : Ending → World → Prop} {w : World} {a0 a1 a2 : Value} (h : F41 R w a0 a1 a2) : Calls Try.prog 41 #[a0, a1, a2] w R := shF_sound (F41.eq R w a0 a1 a2 ▸ h)

/-- greenscreen/attr.Protected -/
def F42 (R : Ending → World → Prop) (w : World) (a0 : Value) : Prop :=
  opv ((binOp .and 5 a0 (.int .u8 32)).run Try.prog w) R fun t4 w =>
  opv ((binE true .neq 5 t4 (.int .u8 0)).run Try.prog w) R fun t5 w =>
  R (.returned t5) w
theorem F42.eq (R : Ending → World → Prop) (w : World) (a0 : Value) : F42 R w a0 = shF Try.prog 42 [0,2] [a0] R w := by kernel_rfl
theorem F42.calls {R : Ending → World → Prop} {w : World} {a0 : Value} (h : F42 R w a0) : Calls Try.prog 42 #[a0] w R := shF_sound (F42.eq R w a0 ▸ h)

/-- greenscreen/addr.Move -/
def F43 (R : Ending → World → Prop) (w : World) (a0 a1 a2 : Value) : Prop :=
  opv ((Instr.box 23 a0).run Try.prog w) R fun t3 w =>
  opv ((Instr.loadAt 23 t3).run Try.prog w) R fun t8 w =>
  callF Try.prog 63 #[t8] w R fun t9 w =>
  opv ((binE true .eql 3 t9 (.int .i64 0)).run Try.prog w) R fun t11 w =>
  cond t11 (R (.returned (.int .i64 0)) w)
  (drawn w fun T w =>
  qop T w (fun w K => opv ((binOp .rem 3 a1 t9).run Try.prog w) noR K) fun t14 =>
  qop T w (fun w K => opv ((binOp .rem 3 a2 t9).run Try.prog w) noR K) fun t17 =>
  qop T w (fun w K => opv ((binOp .add 3 t14 t17).run Try.prog w) noR K) fun t18 =>
  qop T w (fun w K => opv ((binOp .rem 3 t18 t9).run Try.prog w) noR K) fun t20 =>
  qop T w (fun w K => opv ((binOp .add 3 t20 t9).run Try.prog w) noR K) fun t22 =>
  qop T w (fun w K => opv ((binOp .rem 3 t22 t9).run Try.prog w) noR K) fun t24 =>
  ext w fun w =>
  R (.returned t24) w)
theorem F43.eq (R : Ending → World → Prop) (w : World) (a0 a1 a2 : Value) : F43 R w a0 a1 a2 = shF Try.prog 43 [0,1,2,3,6,7,11] [a0, a1, a2] R w := by kernel_rfl
theorem F43.calls {R : Ending → World → Prop} {w : World} {a0 a1 a2 : Value} (h : F43 R w a0 a1 a2) : Calls Try.prog 43 #[a0, a1, a2] w R := shF_sound (F43.eq R w a0 a1 a2 ▸ h)

/-- (*greenscreen/plane.Plane).Size -/
def F44 (R : Ending → World → Prop) (w : World) (a0 : Value) : Prop :=
  opv ((Instr.alloc 23 true (.tuple #[])).run Try.prog w) R fun t2 w =>
  nilck a0 w fun t4 w =>
  opv ((Instr.fieldAt 102 t4 0).run Try.prog w) R fun t5 w =>
  opv ((Instr.loadAt 23 t5).run Try.prog w) R fun t6 w =>
  opu ((Instr.storeAt 23 t2 t6).run Try.prog w) R fun _ w =>
  ldv ((Instr.loadAt 23 t2).run Try.prog w) w fun r0 =>
  R (.returned r0) w
theorem F44.eq (R : Ending → World → Prop) (w : World) (a0 : Value) : F44 R w a0 = shF Try.prog 44 [0,2] [a0] R w := by kernel_rfl
theorem F44.calls {R : Ending → World → Prop} {w : World} {a0 : Value} (h : F44 R w a0) : Calls Try.prog 44 #[a0] w R := shF_sound (F44.eq R w a0 ▸ h)

/-- greenscreen/greenscreenref11.Bit -/
def F45 (R : Ending → World → Prop) (w : World) (a0 a1 : Value) : Prop :=
  opv ((convert 5 3 a0).run Try.prog w) R fun t6 w =>
  opv ((binOp .quo 3 t6 a1).run Try.prog w) R fun t8 w =>
  opv ((binOp .rem 3 t8 (.int .i64 2)).run Try.prog w) R fun t9 w =>
  opv ((binE true .eql 3 t9 (.int .i64 1)).run Try.prog w) R fun t10 w =>
  R (.returned t10) w
theorem F45.eq (R : Ending → World → Prop) (w : World) (a0 a1 : Value) : F45 R w a0 a1 = shF Try.prog 45 [0,1,4] [a0, a1] R w := by kernel_rfl
theorem F45.calls {R : Ending → World → Prop} {w : World} {a0 a1 : Value} (h : F45 R w a0 a1) : Calls Try.prog 45 #[a0, a1] w R := shF_sound (F45.eq R w a0 a1 ▸ h)

/-- greenscreen/greenscreenref14.Has -/
def F46 (R : Ending → World → Prop) (w : World) (a0 a1 : Value) : Prop :=
  opv ((Instr.box 28 a0).run Try.prog w) R fun t2 w =>
  opv ((binOp .geq 3 a1 (.int .i64 0)).run Try.prog w) R fun t6 w =>
  gd t6 true (fun K => K a1 w) w fun t8 w =>
  gd t6 true (fun K => opv ((Instr.fieldAt 28 t2 1).run Try.prog w) R K) w fun t9 w =>
  gd t6 true (fun K => opv ((Instr.loadAt 24 t9).run Try.prog w) R K) w fun t10 w =>
  gd t6 true (fun K => opv ((Builtin.len_ #[24] 3 #[t10]).run Try.prog w) R K) w fun t11 w =>
  gd t6 true (fun K => opv ((binOp .lss 3 t8 t11).run Try.prog w) R K) w fun t12 w =>
  pick t6 t12 (.bool false) w fun t13 w =>
  R (.returned t13) w
theorem F46.eq (R : Ending → World → Prop) (w : World) (a0 a1 : Value) : F46 R w a0 a1 = shF Try.prog 46 [0,1,2,4] [a0, a1] R w := by kernel_rfl
theorem F46.calls {R : Ending → World → Prop} {w : World} {a0 a1 : Value} (h : F46 R w a0 a1) : Calls Try.prog 46 #[a0, a1] w R := shF_sound (F46.eq R w a0 a1 ▸ h)

/-- greenscreen/greenscreenref01.Held -/
def F47 (R : Ending → World → Prop) (w : World) (a0 a1 a2 : Value) : Prop :=
  opv ((binOp .lss 3 a0 a1).run Try.prog w) R fun t9 w =>
  cond t9 (R (.returned a1) w)
  (opv ((binOp .gtr 3 a0 a2).run Try.prog w) R fun t13 w =>
  cond t13 (R (.returned a2) w)
  (R (.returned a0) w))
theorem F47.eq (R : Ending → World → Prop) (w : World) (a0 a1 a2 : Value) : F47 R w a0 a1 a2 = shF Try.prog 47 [0,1,2,6,9,13] [a0, a1, a2] R w := by kernel_rfl
theorem F47.calls {R : Ending → World → Prop} {w : World} {a0 a1 a2 : Value} (h : F47 R w a0 a1 a2) : Calls Try.prog 47 #[a0, a1, a2] w R := shF_sound (F47.eq R w a0 a1 a2 ▸ h)

/-- greenscreen/field.Places -/
def F48 (R : Ending → World → Prop) (w : World) (a0 a1 : Value) : Prop :=
  opv ((Instr.box 26 a0).run Try.prog w) R fun t2 w =>
  opv ((Instr.box 39 a1).run Try.prog w) R fun t3 w =>
  opv ((Instr.makeFunc (.func 66) #[] #[t3, t2]).run Try.prog w) R fun t5 w =>
  R (.returned t5) w
theorem F48.eq (R : Ending → World → Prop) (w : World) (a0 a1 : Value) : F48 R w a0 a1 = shF Try.prog 48 [0,1,2,3,4] [a0, a1] R w := by kernel_rfl
theorem F48.calls {R : Ending → World → Prop} {w : World} {a0 a1 : Value} (h : F48 R w a0 a1) : Calls Try.prog 48 #[a0, a1] w R := shF_sound (F48.eq R w a0 a1 ▸ h)

/-- greenscreen/attr.Shown -/
def F49 (R : Ending → World → Prop) (w : World) (a0 : Value) : Prop :=
  opv ((binOp .and 5 a0 (.int .u8 12)).run Try.prog w) R fun t4 w =>
  opv ((convert 5 3 t4).run Try.prog w) R fun t5 w =>
  opv ((binOp .shr 3 t5 (.int .u64 2)).run Try.prog w) R fun t6 w =>
  R (.returned t6) w
theorem F49.eq (R : Ending → World → Prop) (w : World) (a0 : Value) : F49 R w a0 = shF Try.prog 49 [0,2] [a0] R w := by kernel_rfl
theorem F49.calls {R : Ending → World → Prop} {w : World} {a0 : Value} (h : F49 R w a0) : Calls Try.prog 49 #[a0] w R := shF_sound (F49.eq R w a0 ▸ h)

/-- strings.Repeat -/
def F50 (R : Ending → World → Prop) (w : World) (a0 a1 : Value) : Prop :=
  opv ((binE true .eql 3 a1 (.int .i64 0)).run Try.prog w) R fun t13 w =>
  cond t13 (R (.returned (.string ⟨#[]⟩)) w)
  (opv ((binE true .eql 3 a1 (.int .i64 1)).run Try.prog w) R fun t15 w =>
  cond t15 (R (.returned a0) w)
  (join (upd (upd (upd (upd (ini [a0, a1]) 4 (.string ⟨#[]⟩)) 11 a1) 12 t13) 14 t15) (fun j1 =>
  opv ((binOp .lss 3 a1 (.int .i64 0)).run Try.prog w) R fun t18 w =>
  cond t18 (opv ((Instr.makeInterface 9 (.string ⟨#[115, 116, 114, 105, 110, 103, 115, 58, 32, 110, 101, 103, 97, 116, 105, 118, 101, 32, 82, 101, 112, 101, 97, 116, 32, 99, 111, 117, 110, 116]⟩)).run Try.prog w) R fun t19 w =>
  opv ((Instr.panic t19).run Try.prog w) R fun _ w =>
  j1 (upd (upd (upd (upd (upd (ini [a0, a1]) 4 (.string ⟨#[]⟩)) 11 a1) 12 t13) 14 t15) 18 t18) w)
  (j1 (upd (upd (upd (upd (upd (ini [a0, a1]) 4 (.string ⟨#[]⟩)) 11 a1) 12 t13) 14 t15) 18 t18) w)) fun e1 g1 w =>
  opv ((Builtin.len_ #[9] 3 #[a0]).run Try.prog w) R fun t22 w =>
  opv ((convert 3 111 t22).run Try.prog w) R fun t23 w =>
  opv ((convert 3 111 a1).run Try.prog w) R fun t25 w =>
  callF Try.prog 67 #[t23, t25] w R fun t26 w =>
  opv ((Instr.extract t26 0).run Try.prog w) R fun t27 w =>
  opv ((Instr.extract t26 1).run Try.prog w) R fun t28 w =>
  join (upd (upd (mix [18] g1 e1) 5 t27) 6 t28) (fun j2 =>
  opv ((binOp .gtr 111 t27 (.int .u64 0)).run Try.prog w) R fun t30 w =>
  gd t30 false (fun K => K t28 w) w fun t32 w =>
  gd t30 false (fun K => opv ((binOp .gtr 111 t32 (.int .u64 9223372036854775807)).run Try.prog w) R K) w fun t33 w =>
  pick t30 (.bool true) t33 w fun t34 w =>
  cond t34 (opv ((Instr.makeInterface 9 (.string ⟨#[115, 116, 114, 105, 110, 103, 115, 58, 32, 82, 101, 112, 101, 97, 116, 32, 111, 117, 116, 112, 117, 116, 32, 108, 101, 110, 103, 116, 104, 32, 111, 118, 101, 114, 102, 108, 111, 119]⟩)).run Try.prog w) R fun t35 w =>
  opv ((Instr.panic t35).run Try.prog w) R fun _ w =>
  j2 (upd (upd (upd (mix [18] g1 e1) 5 t27) 6 t28) 34 t34) w)
  (j2 (upd (upd (upd (mix [18] g1 e1) 5 t27) 6 t28) 34 t34) w)) fun e2 g2 w =>
  opv ((convert 111 3 t28).run Try.prog w) R fun t37 w =>
  opv ((Builtin.len_ #[9] 3 #[a0]).run Try.prog w) R fun t39 w =>
  opv ((binE true .eql 3 t39 (.int .i64 0)).run Try.prog w) R fun t40 w =>
  cond t40 (R (.returned (.string ⟨#[]⟩)) w)
  (join (upd (upd (mix [34] g2 e2) 7 t37) 40 t40) (fun j3 =>
  opv ((Instr.index 9 a0 (.int .i64 0)).run Try.prog w) R fun t42 w =>
  join (upd (upd (upd (mix [34] g2 e2) 7 t37) 40 t40) 42 t42) (fun j4 =>
  opv ((binE true .eql 5 t42 (.int .u8 32)).run Try.prog w) R fun t44 w =>
  cond t44 (j4 (upd (upd (upd (upd (mix [34] g2 e2) 7 t37) 40 t40) 42 t42) 43 t44) w)
  (opv ((binE true .eql 5 t42 (.int .u8 45)).run Try.prog w) R fun t45 w =>
  cond t45 (j4 (upd (upd (upd (upd (upd (mix [34] g2 e2) 7 t37) 40 t40) 42 t42) 43 t44) 43 t45) w)
  (opv ((binE true .eql 5 t42 (.int .u8 48)).run Try.prog w) R fun t46 w =>
  cond t46 (j4 (upd (upd (upd (upd (upd (upd (mix [34] g2 e2) 7 t37) 40 t40) 42 t42) 43 t44) 43 t45) 43 t46) w)
  (opv ((binE true .eql 5 t42 (.int .u8 61)).run Try.prog w) R fun t47 w =>
  cond t47 (j4 (upd (upd (upd (upd (upd (upd (upd (mix [34] g2 e2) 7 t37) 40 t40) 42 t42) 43 t44) 43 t45) 43 t46) 43 t47) w)
  (opv ((binE true .eql 5 t42 (.int .u8 9)).run Try.prog w) R fun t48 w =>
  j4 (upd (upd (upd (upd (upd (upd (upd (upd (mix [34] g2 e2) 7 t37) 40 t40) 42 t42) 43 t44) 43 t45) 43 t46) 43 t47) 43 t48) w))))) fun e4 g4 w =>
  cond (g4 43) (opv ((binOp .leq 3 t37 (.int .i64 128)).run Try.prog w) R fun t51 w =>
  gd t51 true (fun K => K a0 w) w fun t53 w =>
  gd t51 true (fun K => callF Try.prog 68 #[(.string ⟨#[32, 32, 32, 32, 32, 32, 32, 32, 32, 32, 32, 32, 32, 32, 32, 32, 32, 32, 32, 32, 32, 32, 32, 32, 32, 32, 32, 32, 32, 32, 32, 32, 32, 32, 32, 32, 32, 32, 32, 32, 32, 32, 32, 32, 32, 32, 32, 32, 32, 32, 32, 32, 32, 32, 32, 32, 32, 32, 32, 32, 32, 32, 32, 32, 32, 32, 32, 32, 32, 32, 32, 32, 32, 32, 32, 32, 32, 32, 32, 32, 32, 32, 32, 32, 32, 32, 32, 32, 32, 32, 32, 32, 32, 32, 32, 32, 32, 32, 32, 32, 32, 32, 32, 32, 32, 32, 32, 32, 32, 32, 32, 32, 32, 32, 32, 32, 32, 32, 32, 32, 32, 32, 32, 32, 32, 32, 32, 32]⟩), t53] w R K) w fun t54 w =>
  pick t51 t54 (.bool false) w fun t55 w =>
  cond t55 (opv ((Instr.sliceAt 9 (.string ⟨#[32, 32, 32, 32, 32, 32, 32, 32, 32, 32, 32, 32, 32, 32, 32, 32, 32, 32, 32, 32, 32, 32, 32, 32, 32, 32, 32, 32, 32, 32, 32, 32, 32, 32, 32, 32, 32, 32, 32, 32, 32, 32, 32, 32, 32, 32, 32, 32, 32, 32, 32, 32, 32, 32, 32, 32, 32, 32, 32, 32, 32, 32, 32, 32, 32, 32, 32, 32, 32, 32, 32, 32, 32, 32, 32, 32, 32, 32, 32, 32, 32, 32, 32, 32, 32, 32, 32, 32, 32, 32, 32, 32, 32, 32, 32, 32, 32, 32, 32, 32, 32, 32, 32, 32, 32, 32, 32, 32, 32, 32, 32, 32, 32, 32, 32, 32, 32, 32, 32, 32, 32, 32, 32, 32, 32, 32, 32, 32]⟩) none (some t37) none).run Try.prog w) R fun t57 w =>
  R (.returned t57) w)
  (opv ((binOp .leq 3 t37 (.int .i64 128)).run Try.prog w) R fun t60 w =>
  gd t60 true (fun K => K a0 w) w fun t62 w =>
  gd t60 true (fun K => callF Try.prog 68 #[(.string ⟨#[45, 45, 45, 45, 45, 45, 45, 45, 45, 45, 45, 45, 45, 45, 45, 45, 45, 45, 45, 45, 45, 45, 45, 45, 45, 45, 45, 45, 45, 45, 45, 45, 45, 45, 45, 45, 45, 45, 45, 45, 45, 45, 45, 45, 45, 45, 45, 45, 45, 45, 45, 45, 45, 45, 45, 45, 45, 45, 45, 45, 45, 45, 45, 45, 45, 45, 45, 45, 45, 45, 45, 45, 45, 45, 45, 45, 45, 45, 45, 45, 45, 45, 45, 45, 45, 45, 45, 45, 45, 45, 45, 45, 45, 45, 45, 45, 45, 45, 45, 45, 45, 45, 45, 45, 45, 45, 45, 45, 45, 45, 45, 45, 45, 45, 45, 45, 45, 45, 45, 45, 45, 45, 45, 45, 45, 45, 45, 45]⟩), t62] w R K) w fun t63 w =>
  pick t60 t63 (.bool false) w fun t64 w =>
  cond t64 (opv ((Instr.sliceAt 9 (.string ⟨#[45, 45, 45, 45, 45, 45, 45, 45, 45, 45, 45, 45, 45, 45, 45, 45, 45, 45, 45, 45, 45, 45, 45, 45, 45, 45, 45, 45, 45, 45, 45, 45, 45, 45, 45, 45, 45, 45, 45, 45, 45, 45, 45, 45, 45, 45, 45, 45, 45, 45, 45, 45, 45, 45, 45, 45, 45, 45, 45, 45, 45, 45, 45, 45, 45, 45, 45, 45, 45, 45, 45, 45, 45, 45, 45, 45, 45, 45, 45, 45, 45, 45, 45, 45, 45, 45, 45, 45, 45, 45, 45, 45, 45, 45, 45, 45, 45, 45, 45, 45, 45, 45, 45, 45, 45, 45, 45, 45, 45, 45, 45, 45, 45, 45, 45, 45, 45, 45, 45, 45, 45, 45, 45, 45, 45, 45, 45, 45]⟩) none (some t37) none).run Try.prog w) R fun t66 w =>
  R (.returned t66) w)
  (opv ((binOp .leq 3 t37 (.int .i64 64)).run Try.prog w) R fun t69 w =>
  gd t69 true (fun K => K a0 w) w fun t71 w =>
  gd t69 true (fun K => callF Try.prog 68 #[(.string ⟨#[48, 48, 48, 48, 48, 48, 48, 48, 48, 48, 48, 48, 48, 48, 48, 48, 48, 48, 48, 48, 48, 48, 48, 48, 48, 48, 48, 48, 48, 48, 48, 48, 48, 48, 48, 48, 48, 48, 48, 48, 48, 48, 48, 48, 48, 48, 48, 48, 48, 48, 48, 48, 48, 48, 48, 48, 48, 48, 48, 48, 48, 48, 48, 48]⟩), t71] w R K) w fun t72 w =>
  pick t69 t72 (.bool false) w fun t73 w =>
  cond t73 (opv ((Instr.sliceAt 9 (.string ⟨#[48, 48, 48, 48, 48, 48, 48, 48, 48, 48, 48, 48, 48, 48, 48, 48, 48, 48, 48, 48, 48, 48, 48, 48, 48, 48, 48, 48, 48, 48, 48, 48, 48, 48, 48, 48, 48, 48, 48, 48, 48, 48, 48, 48, 48, 48, 48, 48, 48, 48, 48, 48, 48, 48, 48, 48, 48, 48, 48, 48, 48, 48, 48, 48]⟩) none (some t37) none).run Try.prog w) R fun t75 w =>
  R (.returned t75) w)
  (opv ((binOp .leq 3 t37 (.int .i64 128)).run Try.prog w) R fun t78 w =>
  gd t78 true (fun K => K a0 w) w fun t80 w =>
  gd t78 true (fun K => callF Try.prog 68 #[(.string ⟨#[61, 61, 61, 61, 61, 61, 61, 61, 61, 61, 61, 61, 61, 61, 61, 61, 61, 61, 61, 61, 61, 61, 61, 61, 61, 61, 61, 61, 61, 61, 61, 61, 61, 61, 61, 61, 61, 61, 61, 61, 61, 61, 61, 61, 61, 61, 61, 61, 61, 61, 61, 61, 61, 61, 61, 61, 61, 61, 61, 61, 61, 61, 61, 61, 61, 61, 61, 61, 61, 61, 61, 61, 61, 61, 61, 61, 61, 61, 61, 61, 61, 61, 61, 61, 61, 61, 61, 61, 61, 61, 61, 61, 61, 61, 61, 61, 61, 61, 61, 61, 61, 61, 61, 61, 61, 61, 61, 61, 61, 61, 61, 61, 61, 61, 61, 61, 61, 61, 61, 61, 61, 61, 61, 61, 61, 61, 61, 61]⟩), t80] w R K) w fun t81 w =>
  pick t78 t81 (.bool false) w fun t82 w =>
  cond t82 (opv ((Instr.sliceAt 9 (.string ⟨#[61, 61, 61, 61, 61, 61, 61, 61, 61, 61, 61, 61, 61, 61, 61, 61, 61, 61, 61, 61, 61, 61, 61, 61, 61, 61, 61, 61, 61, 61, 61, 61, 61, 61, 61, 61, 61, 61, 61, 61, 61, 61, 61, 61, 61, 61, 61, 61, 61, 61, 61, 61, 61, 61, 61, 61, 61, 61, 61, 61, 61, 61, 61, 61, 61, 61, 61, 61, 61, 61, 61, 61, 61, 61, 61, 61, 61, 61, 61, 61, 61, 61, 61, 61, 61, 61, 61, 61, 61, 61, 61, 61, 61, 61, 61, 61, 61, 61, 61, 61, 61, 61, 61, 61, 61, 61, 61, 61, 61, 61, 61, 61, 61, 61, 61, 61, 61, 61, 61, 61, 61, 61, 61, 61, 61, 61, 61, 61]⟩) none (some t37) none).run Try.prog w) R fun t84 w =>
  R (.returned t84) w)
  (opv ((binOp .leq 3 t37 (.int .i64 64)).run Try.prog w) R fun t87 w =>
  gd t87 true (fun K => K a0 w) w fun t89 w =>
  gd t87 true (fun K => callF Try.prog 68 #[(.string ⟨#[9, 9, 9, 9, 9, 9, 9, 9, 9, 9, 9, 9, 9, 9, 9, 9, 9, 9, 9, 9, 9, 9, 9, 9, 9, 9, 9, 9, 9, 9, 9, 9, 9, 9, 9, 9, 9, 9, 9, 9, 9, 9, 9, 9, 9, 9, 9, 9, 9, 9, 9, 9, 9, 9, 9, 9, 9, 9, 9, 9, 9, 9, 9, 9]⟩), t89] w R K) w fun t90 w =>
  pick t87 t90 (.bool false) w fun t91 w =>
  cond t91 (opv ((Instr.sliceAt 9 (.string ⟨#[9, 9, 9, 9, 9, 9, 9, 9, 9, 9, 9, 9, 9, 9, 9, 9, 9, 9, 9, 9, 9, 9, 9, 9, 9, 9, 9, 9, 9, 9, 9, 9, 9, 9, 9, 9, 9, 9, 9, 9, 9, 9, 9, 9, 9, 9, 9, 9, 9, 9, 9, 9, 9, 9, 9, 9, 9, 9, 9, 9, 9, 9, 9, 9]⟩) none (some t37) none).run Try.prog w) R fun t93 w =>
  R (.returned t93) w)
  (j3 (upd (upd (upd (upd (upd (mix [43] g4 e4) 49 t55) 58 t64) 67 t73) 76 t82) 85 t91) w))))))
  (j3 (mix [43] g4 e4) w)) fun e3 g3 w =>
  join (upd (mix [42,43,49,58,67,76,85,4] g3 e3) 8 t37) (fun j5 =>
  opv ((binOp .gtr 3 t37 (.int .i64 8192)).run Try.prog w) R fun t96 w =>
  cond t96 (opv ((Builtin.len_ #[9] 3 #[a0]).run Try.prog w) R fun t98 w =>
  opv ((binOp .quo 3 (.int .i64 8192) t98).run Try.prog w) R fun t99 w =>
  opv ((Builtin.len_ #[9] 3 #[a0]).run Try.prog w) R fun t101 w =>
  opv ((binOp .mul 3 t99 t101).run Try.prog w) R fun t102 w =>
  opv ((binE true .eql 3 t102 (.int .i64 0)).run Try.prog w) R fun t104 w =>
  cond t104 (opv ((Builtin.len_ #[9] 3 #[a0]).run Try.prog w) R fun t106 w =>
  j5 (upd (upd (upd (upd (upd (mix [42,43,49,58,67,76,85,4] g3 e3) 8 t37) 96 t96) 8 t102) 104 t104) 8 t106) w)
  (j5 (upd (upd (upd (upd (mix [42,43,49,58,67,76,85,4] g3 e3) 8 t37) 96 t96) 8 t102) 104 t104) w))
  (j5 (upd (upd (mix [42,43,49,58,67,76,85,4] g3 e3) 8 t37) 96 t96) w)) fun e5 g5 w =>
  opv ((Instr.alloc 93 true (.tuple #[])).run Try.prog w) R fun t9 w =>
  callF Try.prog 69 #[t9, t37] w R fun t108 w =>
  callF Try.prog 51 #[t9, a0] w R fun t110 w =>
  join (upd (mix [96,104,8] g5 e5) 9 t9) (fun j6 =>
  loop (upd (mix [96,104,8] g5 e5) 9 t9) w fun e7 g7 w j7 =>
  callF Try.prog 70 #[t9] w R fun t111 w =>
  opv ((binOp .lss 3 t111 t37).run Try.prog w) R fun t113 w =>
  cond t113 (callF Try.prog 70 #[t9] w R fun t115 w =>
  opv ((binOp .sub 3 t37 t115).run Try.prog w) R fun t116 w =>
  callF Try.prog 70 #[t9] w R fun t117 w =>
  opv ((Builtin.min_ #[3, 3, 3] 3 #[t116, t117, (g5 8)]).run Try.prog w) R fun t119 w =>
  callF Try.prog 52 #[t9] w R fun t120 w =>
  opv ((Instr.sliceAt 9 t120 none (some t119) none).run Try.prog w) R fun t122 w =>
  callF Try.prog 51 #[t9, t122] w R fun t123 w =>
  j7 (upd (upd (mix [113,10] g7 e7) 113 t113) 10 t119) w)
  (j6 (upd (mix [113,10] g7 e7) 113 t113) w)) fun e6 g6 w =>
  callF Try.prog 52 #[t9] w R fun t124 w =>
  R (.returned t124) w)))
theorem F50.eq (R : Ending → World → Prop) (w : World) (a0 a1 : Value) : F50 R w a0 a1 = shF Try.prog 50 [0,1,4,5,6,7,8,9,10,11,12,14,18,34,40,42,43,49,58,67,76,85,96,104,113] [a0, a1] R w := by kernel_rfl
theorem F50.calls {R : Ending → World → Prop} {w : World} {a0 a1 : Value} (h : F50 R w a0 a1) : Calls Try.prog 50 #[a0, a1] w R := shF_sound (F50.eq R w a0 a1 ▸ h)

/-- (*strings.Builder).WriteString -/
def F51 (R : Ending → World → Prop) (w : World) (a0 a1 : Value) : Prop :=
  callF Try.prog 71 #[a0] w R fun t7 w =>
  nilck a0 w fun t10 w =>
  opv ((Instr.fieldAt 93 t10 1).run Try.prog w) R fun t11 w =>
  opv ((Instr.loadAt 43 t11).run Try.prog w) R fun t12 w =>
  opv ((Builtin.append_ #[43, 9] 43 #[t12, a1]).run Try.prog w) R fun t14 w =>
  nilck a0 w fun t15 w =>
  opv ((Instr.fieldAt 93 t15 1).run Try.prog w) R fun t16 w =>
  opu ((Instr.storeAt 43 t16 t14).run Try.prog w) R fun _ w =>
  opv ((Builtin.len_ #[9] 3 #[a1]).run Try.prog w) R fun t18 w =>
  R (.returned (.tuple #[t18, .nilIface])) w
theorem F51.eq (R : Ending → World → Prop) (w : World) (a0 a1 : Value) : F51 R w a0 a1 = shF Try.prog 51 [0,1,4,5] [a0, a1] R w := by kernel_rfl
theorem F51.calls {R : Ending → World → Prop} {w : World} {a0 a1 : Value} (h : F51 R w a0 a1) : Calls Try.prog 51 #[a0, a1] w R := shF_sound (F51.eq R w a0 a1 ▸ h)

/-- (*strings.Builder).String -/
def F52 (R : Ending → World → Prop) (w : World) (a0 : Value) : Prop :=
  drawn w fun T w =>
  qop T w (fun w K => nilck a0 w K) fun t4 =>
  qop T w (fun w K => opv ((Instr.fieldAt 93 t4 1).run Try.prog w) noR K) fun t5 =>
  qop T w (fun w K => opv ((Instr.loadAt 43 t5).run Try.prog w) noR K) fun t6 =>
  qop T w (fun w K => nilck a0 w K) fun t9 =>
  qop T w (fun w K => opv ((Instr.fieldAt 93 t9 1).run Try.prog w) noR K) fun t10 =>
  qop T w (fun w K => opv ((Instr.loadAt 43 t10).run Try.prog w) noR K) fun t11 =>
  qop T w (fun w K => opv ((Builtin.len_ #[43] 3 #[t11]).run Try.prog w) noR K) fun t12 =>
  ext w fun w =>
  lop T w (fun w K => opv ((Builtin.unsafeSliceData_ #[43] 116 #[t6]).run Try.prog w) R K) fun t7 w =>
  ext w fun w =>
  lop T w (fun w K => opv ((Builtin.unsafeString_ #[116, 3] 9 #[t7, t12]).run Try.prog w) R K) fun t13 w =>
  ext w fun w =>
  R (.returned t13) w
theorem F52.eq (R : Ending → World → Prop) (w : World) (a0 : Value) : F52 R w a0 = shF Try.prog 52 [0,2] [a0] R w := by kernel_rfl
theorem F52.calls {R : Ending → World → Prop} {w : World} {a0 : Value} (h : F52 R w a0) : Calls Try.prog 52 #[a0] w R := shF_sound (F52.eq R w a0 ▸ h)

/-- greenscreen/greenscreenref11.Shown -/
def F53 (R : Ending → World → Prop) (w : World) (a0 : Value) : Prop :=
  opv ((convert 5 3 a0).run Try.prog w) R fun t4 w =>
  opv ((binOp .quo 3 t4 (.int .i64 4)).run Try.prog w) R fun t5 w =>
  opv ((binOp .rem 3 t5 (.int .i64 4)).run Try.prog w) R fun t6 w =>
  R (.returned t6) w
theorem F53.eq (R : Ending → World → Prop) (w : World) (a0 : Value) : F53 R w a0 = shF Try.prog 53 [0,2] [a0] R w := by kernel_rfl
theorem F53.calls {R : Ending → World → Prop} {w : World} {a0 : Value} (h : F53 R w a0) : Calls Try.prog 53 #[a0] w R := shF_sound (F53.eq R w a0 ▸ h)

/-- greenscreen/greenscreenref14.Sign -/
def F54 (R : Ending → World → Prop) (w : World) (a0 a1 : Value) : Prop :=
  opv ((Instr.box 45 a1).run Try.prog w) R fun t3 w =>
  opv ((Instr.fieldAt 45 t3 2).run Try.prog w) R fun t5 w =>
  opv ((Instr.loadAt 4 t5).run Try.prog w) R fun t6 w =>
  cond t6 (R (.returned (.string ⟨#[32]⟩)) w)
  (opv ((Instr.fieldAt 45 t3 1).run Try.prog w) R fun t7 w =>
  opv ((Instr.loadAt 4 t7).run Try.prog w) R fun t8 w =>
  cond t8 (opv ((Instr.fieldAt 45 t3 0).run Try.prog w) R fun t9 w =>
  opv ((Instr.loadAt 5 t9).run Try.prog w) R fun t10 w =>
  opv ((convert 5 3 t10).run Try.prog w) R fun t11 w =>
  opv ((binOp .add 3 (.int .i64 57344) t11).run Try.prog w) R fun t12 w =>
  opv ((convert 3 21 t12).run Try.prog w) R fun t13 w =>
  opv ((convert 21 9 t13).run Try.prog w) R fun t14 w =>
  R (.returned t14) w)
  (opv ((Instr.fieldAt 45 t3 0).run Try.prog w) R fun t15 w =>
  opv ((Instr.loadAt 5 t15).run Try.prog w) R fun t16 w =>
  callF Try.prog 72 #[t16] w R fun t17 w =>
  opv ((Op.unary .not t17).run Try.prog w) R fun t18 w =>
  cond t18 (R (.returned (.string ⟨#[32]⟩)) w)
  (opv ((Instr.fieldAt 45 t3 0).run Try.prog w) R fun t20 w =>
  opv ((Instr.loadAt 5 t20).run Try.prog w) R fun t21 w =>
  callF Try.prog 73 #[a0, t21] w R fun t22 w =>
  opv ((convert 21 9 t22).run Try.prog w) R fun t23 w =>
  R (.returned t23) w)))
theorem F54.eq (R : Ending → World → Prop) (w : World) (a0 a1 : Value) : F54 R w a0 a1 = shF Try.prog 54 [0,1,3,4,6,8,18] [a0, a1] R w := by kernel_rfl
theorem F54.calls {R : Ending → World → Prop} {w : World} {a0 a1 : Value} (h : F54 R w a0 a1) : Calls Try.prog 54 #[a0, a1] w R := shF_sound (F54.eq R w a0 a1 ▸ h)

/-- greenscreen/field.at -/
def F55 (R : Ending → World → Prop) (w : World) (a0 a1 : Value) : Prop :=
  opv ((Instr.alloc 39 true (.tuple #[])).run Try.prog w) R fun t4 w =>
  callF Try.prog 25 #[a0, a1] w R fun t8 w =>
  opv ((binOp .sub 3 t8 a1).run Try.prog w) R fun t10 w =>
  opv ((binOp .sub 3 t10 (.int .i64 1)).run Try.prog w) R fun t11 w =>
  join (upd (upd (ini [a0, a1]) 4 t4) 5 t11) (fun j1 =>
  opv ((binOp .lss 3 t11 (.int .i64 0)).run Try.prog w) R fun t13 w =>
  cond t13 (callF Try.prog 29 #[a0] w R fun t16 w =>
  opv ((binOp .add 3 t11 t16).run Try.prog w) R fun t17 w =>
  j1 (upd (upd (upd (upd (ini [a0, a1]) 4 t4) 5 t11) 13 t13) 5 t17) w)
  (j1 (upd (upd (upd (ini [a0, a1]) 4 t4) 5 t11) 13 t13) w)) fun e1 g1 w =>
  callF Try.prog 30 #[a0, a1] w R fun t22 w =>
  opv ((Instr.field 45 t22 0).run Try.prog w) R fun t23 w =>
  opv ((binOp .and 5 t23 (.int .u8 63)).run Try.prog w) R fun t24 w =>
  opv ((Instr.build 39 #[(0, a1), (1, (g1 5)), (2, t24)]).run Try.prog w) R fun t25 w =>
  opu ((Instr.storeAt 39 t4 t25).run Try.prog w) R fun _ w =>
  ldv ((Instr.loadAt 39 t4).run Try.prog w) w fun r0 =>
  R (.returned r0) w
theorem F55.eq (R : Ending → World → Prop) (w : World) (a0 a1 : Value) : F55 R w a0 a1 = shF Try.prog 55 [0,1,4,5,13] [a0, a1] R w := by kernel_rfl
theorem F55.calls {R : Ending → World → Prop} {w : World} {a0 a1 : Value} (h : F55 R w a0 a1) : Calls Try.prog 55 #[a0, a1] w R := shF_sound (F55.eq R w a0 a1 ▸ h)

/-- (*greenscreen/plane.Plane).has -/
def F56 (R : Ending → World → Prop) (w : World) (a0 a1 : Value) : Prop :=
  opv ((binOp .geq 3 a1 (.int .i64 0)).run Try.prog w) R fun t6 w =>
  gd t6 true (fun K => K a1 w) w fun t8 w =>
  gd t6 true (fun K => K a0 w) w fun t9 w =>
  gd t6 true (fun K => nilck t9 w K) w fun t10 w =>
  gd t6 true (fun K => opv ((Instr.fieldAt 102 t10 1).run Try.prog w) R K) w fun t11 w =>
  gd t6 true (fun K => opv ((Instr.loadAt 24 t11).run Try.prog w) R K) w fun t12 w =>
  gd t6 true (fun K => opv ((Builtin.len_ #[24] 3 #[t12]).run Try.prog w) R K) w fun t13 w =>
  gd t6 true (fun K => opv ((binOp .lss 3 t8 t13).run Try.prog w) R K) w fun t14 w =>
  pick t6 t14 (.bool false) w fun t15 w =>
  R (.returned t15) w
theorem F56.eq (R : Ending → World → Prop) (w : World) (a0 a1 : Value) : F56 R w a0 a1 = shF Try.prog 56 [0,1,4] [a0, a1] R w := by kernel_rfl
theorem F56.calls {R : Ending → World → Prop} {w : World} {a0 a1 : Value} (h : F56 R w a0 a1) : Calls Try.prog 56 #[a0, a1] w R := shF_sound (F56.eq R w a0 a1 ▸ h)

/-- (*greenscreen/plane.Plane).signs -/
def F57 (R : Ending → World → Prop) (w : World) (a0 a1 a2 a3 : Value) : Prop :=
  callF Try.prog 74 #[a1] w R fun t14 w =>
  opv ((Instr.alloc 118 true (.tuple #[])).run Try.prog w) R fun t10 w =>
  opu ((Instr.storeAt 118 t10 t14).run Try.prog w) R fun _ w =>
  join (upd (upd (upd (ini [a0, a1, a2, a3]) 8 (.slice none 0 0)) 9 (.slice none 0 0)) 10 t10) (fun j1 =>
  loop (upd (upd (upd (upd (upd (ini [a0, a1, a2, a3]) 8 (.slice none 0 0)) 9 (.slice none 0 0)) 10 t10) 15 a3) 16 (.int .i64 0)) w fun e2 g2 w j2 =>
  opv ((binOp .lss 3 (g2 16) a3).run Try.prog w) R fun t17 w =>
  cond t17 (join (upd (mix [17,11,12,41,58,9,16] g2 e2) 17 t17) (fun j3 =>
  drawn w fun T w =>
  qop T w (fun w K => nilck a0 w K) fun t20 =>
  qop T w (fun w K => opv ((Instr.fieldAt 102 t20 1).run Try.prog w) noR K) fun t21 =>
  qop T w (fun w K => opv ((Instr.loadAt 24 t21).run Try.prog w) noR K) fun t22 =>
  qop T w (fun w K => opv ((binOp .add 3 a2 (g2 16)).run Try.prog w) noR K) fun t25 =>
  qop T w (fun w K => nilck a0 w K) fun t27 =>
  qop T w (fun w K => opv ((Instr.fieldAt 102 t27 1).run Try.prog w) noR K) fun t28 =>
  qop T w (fun w K => opv ((Instr.loadAt 24 t28).run Try.prog w) noR K) fun t29 =>
  qop T w (fun w K => opv ((Builtin.len_ #[24] 3 #[t29]).run Try.prog w) noR K) fun t30 =>
  qop T w (fun w K => opv ((binOp .rem 3 t25 t30).run Try.prog w) noR K) fun t31 =>
  qop T w (fun w K => opv ((Instr.indexAt 24 t22 t31).run Try.prog w) noR K) fun t32 =>
  qop T w (fun w K => opv ((Instr.loadAt 45 t32).run Try.prog w) noR K) fun t33 =>
  ext w fun w =>
  lop T w (fun w K => opv ((Instr.alloc 45 true (.tuple #[])).run Try.prog w) R K) fun t12 w =>
  ext w fun w =>
  opu ((Instr.storeAt 45 t12 t33).run Try.prog w) R fun _ w =>
  ext w fun w =>
  opv ((Instr.fieldAt 45 t12 2).run Try.prog w) R fun t42 w =>
  opv ((Instr.loadAt 4 t42).run Try.prog w) R fun t43 w =>
  gd t43 false (fun K => opv ((Instr.fieldAt 45 t12 1).run Try.prog w) R K) w fun t45 w =>
  gd t43 false (fun K => opv ((Instr.loadAt 4 t45).run Try.prog w) R K) w fun t46 w =>
  gd t43 false (fun K => opv ((Op.unary .not t46).run Try.prog w) R K) w fun t47 w =>
  gd t43 false (fun K => K t47 w) w fun t48 w =>
  gd t48 true (fun K => opv ((Instr.fieldAt 45 t12 0).run Try.prog w) R K) w fun t49 w =>
  gd t48 true (fun K => opv ((Instr.loadAt 5 t49).run Try.prog w) R K) w fun t50 w =>
  gd t48 true (fun K => callF Try.prog 75 #[t50] w R K) w fun t51 w =>
  gd t48 true (fun K => opv ((Op.unary .not t51).run Try.prog w) R K) w fun t52 w =>
  gd t43 false (fun K => pick t48 t52 (.bool false) w K) w fun t53 w =>
  pick t43 (.bool true) t53 w fun t54 w =>
  cond t54 (opv ((Instr.buildSlice 104 1 #[(0, (.int .i32 32))]).run Try.prog w) R fun t56 w =>
  opv ((Builtin.append_ #[104, 104] 104 #[(g2 9), t56]).run Try.prog w) R fun t57 w =>
  j3 (upd (upd (upd (upd (upd (mix [17,11,12,41,58,9,16] g2 e2) 17 t17) 11 (g2 16)) 12 t12) 41 t54) 9 t57) w)
  (opv ((Instr.fieldAt 45 t12 1).run Try.prog w) R fun t59 w =>
  opv ((Instr.loadAt 4 t59).run Try.prog w) R fun t60 w =>
  cond t60 (opv ((Instr.fieldAt 45 t12 0).run Try.prog w) R fun t62 w =>
  opv ((Instr.loadAt 5 t62).run Try.prog w) R fun t63 w =>
  callF Try.prog 76 #[t63] w R fun t64 w =>
  opv ((Instr.buildSlice 104 1 #[(0, t64)]).run Try.prog w) R fun t65 w =>
  opv ((Builtin.append_ #[104, 104] 104 #[(g2 9), t65]).run Try.prog w) R fun t66 w =>
  j3 (upd (upd (upd (upd (upd (upd (mix [17,11,12,41,58,9,16] g2 e2) 17 t17) 11 (g2 16)) 12 t12) 41 t54) 58 t60) 9 t66) w)
  (opv ((Instr.fieldAt 45 t12 0).run Try.prog w) R fun t35 w =>
  opv ((Instr.loadAt 5 t35).run Try.prog w) R fun t36 w =>
  opv ((Instr.indexAt 118 t10 t36).run Try.prog w) R fun t37 w =>
  opv ((Instr.loadAt 21 t37).run Try.prog w) R fun t38 w =>
  opv ((Instr.buildSlice 104 1 #[(0, t38)]).run Try.prog w) R fun t39 w =>
  opv ((Builtin.append_ #[104, 104] 104 #[(g2 9), t39]).run Try.prog w) R fun t40 w =>
  j3 (upd (upd (upd (upd (upd (upd (mix [17,11,12,41,58,9,16] g2 e2) 17 t17) 11 (g2 16)) 12 t12) 41 t54) 58 t60) 9 t40) w))) fun e3 g3 w =>
  opv ((binOp .add 3 (g2 16) (.int .i64 1)).run Try.prog w) R fun t67 w =>
  j2 (upd (mix [11,12,41,58,9] g3 e3) 16 t67) w)
  (j1 (upd (mix [17,11,12,41,58,9,16] g2 e2) 17 t17) w)) fun e1 g1 w =>
  R (.returned (g1 9)) w
theorem F57.eq (R : Ending → World → Prop) (w : World) (a0 a1 a2 a3 : Value) : F57 R w a0 a1 a2 a3 = shF Try.prog 57 [0,1,2,3,8,9,10,11,12,15,16,17,41,58] [a0, a1, a2, a3] R w := by kernel_rfl
theorem F57.calls {R : Ending → World → Prop} {w : World} {a0 a1 a2 a3 : Value} (h : F57 R w a0 a1 a2 a3) : Calls Try.prog 57 #[a0, a1, a2, a3] w R := shF_sound (F57.eq R w a0 a1 a2 a3 ▸ h)

/-- greenscreen/greenscreenref11.Modify -/
def F58 (R : Ending → World → Prop) (w : World) (a0 a1 : Value) : Prop :=
  opv ((binOp .rem 5 a0 (.int .u8 2)).run Try.prog w) R fun t7 w =>
  opv ((binOp .sub 5 a0 t7).run Try.prog w) R fun t8 w =>
  join (upd (upd (ini [a0, a1]) 4 (.int .u8 0)) 0 t8) (fun j1 =>
  cond a1 (opv ((binOp .add 5 t8 (.int .u8 1)).run Try.prog w) R fun t11 w =>
  j1 (upd (upd (upd (upd (ini [a0, a1]) 4 (.int .u8 0)) 0 t8) 9 a1) 0 t11) w)
  (j1 (upd (upd (upd (ini [a0, a1]) 4 (.int .u8 0)) 0 t8) 9 a1) w)) fun e1 g1 w =>
  R (.returned (g1 0)) w
theorem F58.eq (R : Ending → World → Prop) (w : World) (a0 a1 : Value) : F58 R w a0 a1 = shF Try.prog 58 [0,1,4,9] [a0, a1] R w := by kernel_rfl
theorem F58.calls {R : Ending → World → Prop} {w : World} {a0 a1 : Value} (h : F58 R w a0 a1) : Calls Try.prog 58 #[a0, a1] w R := shF_sound (F58.eq R w a0 a1 ▸ h)

/-- greenscreen/greenscreenref14.Set -/
def F59 (R : Ending → World → Prop) (w : World) (a0 a1 a2 : Value) : Prop :=
  opv ((Instr.box 28 a0).run Try.prog w) R fun t3 w =>
  opv ((Instr.box 45 a2).run Try.prog w) R fun t5 w =>
  opv ((Instr.alloc 28 true (.tuple #[])).run Try.prog w) R fun t6 w =>
  join (upd (upd (upd (ini [a0, a1, a2]) 3 t3) 5 t5) 6 t6) (fun j1 =>
  opv ((Instr.loadAt 28 t3).run Try.prog w) R fun t8 w =>
  callF Try.prog 46 #[t8, a1] w R fun t10 w =>
  cond t10 (opv ((Instr.buildSlice 24 0 #[]).run Try.prog w) R fun t11 w =>
  opv ((Instr.fieldAt 28 t3 1).run Try.prog w) R fun t13 w =>
  opv ((Instr.loadAt 24 t13).run Try.prog w) R fun t14 w =>
  opv ((Builtin.append_ #[24, 24] 24 #[t11, t14]).run Try.prog w) R fun t15 w =>
  opv ((Instr.loadAt 45 t5).run Try.prog w) R fun t18 w =>
  opv ((Instr.indexAt 24 t15 a1).run Try.prog w) R fun t19 w =>
  opu ((Instr.storeAt 45 t19 t18).run Try.prog w) R fun _ w =>
  opv ((Instr.fieldAt 28 t3 1).run Try.prog w) R fun t21 w =>
  opu ((Instr.storeAt 24 t21 t15).run Try.prog w) R fun _ w =>
  j1 (upd (upd (upd (upd (upd (upd (ini [a0, a1, a2]) 3 t3) 5 t5) 6 t6) 10 t10) 7 t11) 7 t15) w)
  (j1 (upd (upd (upd (upd (ini [a0, a1, a2]) 3 t3) 5 t5) 6 t6) 10 t10) w)) fun e1 g1 w =>
  opv ((Instr.loadAt 28 t3).run Try.prog w) R fun t22 w =>
  opu ((Instr.storeAt 28 t6 t22).run Try.prog w) R fun _ w =>
  ldv ((Instr.loadAt 28 t6).run Try.prog w) w fun r0 =>
  R (.returned r0) w
theorem F59.eq (R : Ending → World → Prop) (w : World) (a0 a1 a2 : Value) : F59 R w a0 a1 a2 = shF Try.prog 59 [0,1,2,3,5,6,7,10] [a0, a1, a2] R w := by kernel_rfl
theorem F59.calls {R : Ending → World → Prop} {w : World} {a0 a1 a2 : Value} (h : F59 R w a0 a1 a2) : Calls Try.prog 59 #[a0, a1, a2] w R := shF_sound (F59.eq R w a0 a1 a2 ▸ h)

/-- greenscreen/field.modify -/
def F60 (R : Ending → World → Prop) (w : World) (a0 a1 a2 : Value) : Prop :=
  callF Try.prog 30 #[a0, a1] w R fun t9 w =>
  opv ((Instr.alloc 45 true (.tuple #[])).run Try.prog w) R fun t6 w =>
  opu ((Instr.storeAt 45 t6 t9).run Try.prog w) R fun _ w =>
  opv ((Instr.fieldAt 45 t6 0).run Try.prog w) R fun t10 w =>
  opv ((Instr.loadAt 5 t10).run Try.prog w) R fun t11 w =>
  callF Try.prog 77 #[t11, a2] w R fun t13 w =>
  opv ((Instr.fieldAt 45 t6 0).run Try.prog w) R fun t14 w =>
  opu ((Instr.storeAt 5 t14 t13).run Try.prog w) R fun _ w =>
  opv ((Instr.loadAt 45 t6).run Try.prog w) R fun t17 w =>
  callF Try.prog 37 #[a0, a1, t17] w R fun t18 w =>
  R (.returned (.tuple #[])) w
theorem F60.eq (R : Ending → World → Prop) (w : World) (a0 a1 a2 : Value) : F60 R w a0 a1 a2 = shF Try.prog 60 [0,1,2,6] [a0, a1, a2] R w := by kernel_rfl
theorem F60.calls {R : Ending → World → Prop} {w : World} {a0 a1 a2 : Value} (h : F60 R w a0 a1 a2) : Calls Try.prog 60 #[a0, a1, a2] w R := shF_sound (F60.eq R w a0 a1 a2 ▸ h)

/-- (*greenscreen/plane.Plane).Cursor -/
def F61 (R : Ending → World → Prop) (w : World) (a0 : Value) : Prop :=
  nilck a0 w fun t4 w =>
  opv ((Instr.fieldAt 102 t4 2).run Try.prog w) R fun t5 w =>
  opv ((Instr.loadAt 3 t5).run Try.prog w) R fun t6 w =>
  R (.returned t6) w
theorem F61.eq (R : Ending → World → Prop) (w : World) (a0 : Value) : F61 R w a0 = shF Try.prog 61 [0,2] [a0] R w := by kernel_rfl
theorem F61.calls {R : Ending → World → Prop} {w : World} {a0 : Value} (h : F61 R w a0) : Calls Try.prog 61 #[a0] w R := shF_sound (F61.eq R w a0 ▸ h)

/-- greenscreen/attr.Modified -/
def F62 (R : Ending → World → Prop) (w : World) (a0 : Value) : Prop :=
  opv ((binOp .and 5 a0 (.int .u8 1)).run Try.prog w) R fun t4 w =>
  opv ((binE true .neq 5 t4 (.int .u8 0)).run Try.prog w) R fun t5 w =>
  R (.returned t5) w
theorem F62.eq (R : Ending → World → Prop) (w : World) (a0 : Value) : F62 R w a0 = shF Try.prog 62 [0,2] [a0] R w := by kernel_rfl
theorem F62.calls {R : Ending → World → Prop} {w : World} {a0 : Value} (h : F62 R w a0) : Calls Try.prog 62 #[a0] w R := shF_sound (F62.eq R w a0 ▸ h)

/-- greenscreen/addr.Cells -/
def F63 (R : Ending → World → Prop) (w : World) (a0 : Value) : Prop :=
  opv ((Instr.box 23 a0).run Try.prog w) R fun t1 w =>
  opv ((Instr.fieldAt 23 t1 0).run Try.prog w) R fun t4 w =>
  opv ((Instr.loadAt 3 t4).run Try.prog w) R fun t5 w =>
  opv ((Instr.fieldAt 23 t1 1).run Try.prog w) R fun t6 w =>
  opv ((Instr.loadAt 3 t6).run Try.prog w) R fun t7 w =>
  opv ((binOp .mul 3 t5 t7).run Try.prog w) R fun t8 w =>
  opv ((Instr.fieldAt 23 t1 0).run Try.prog w) R fun t9 w =>
  opv ((Instr.loadAt 3 t9).run Try.prog w) R fun t10 w =>
  opv ((binOp .lss 3 t10 (.int .i64 1)).run Try.prog w) R fun t11 w =>
  gd t11 false (fun K => opv ((Instr.fieldAt 23 t1 0).run Try.prog w) R K) w fun t13 w =>
  gd t11 false (fun K => opv ((Instr.loadAt 3 t13).run Try.prog w) R K) w fun t14 w =>
  gd t11 false (fun K => opv ((binOp .gtr 3 t14 (.int .i64 43)).run Try.prog w) R K) w fun t15 w =>
  pick t11 (.bool true) t15 w fun t16 w =>
  gd t16 false (fun K => opv ((Instr.fieldAt 23 t1 1).run Try.prog w) R K) w fun t18 w =>
  gd t16 false (fun K => opv ((Instr.loadAt 3 t18).run Try.prog w) R K) w fun t19 w =>
  gd t16 false (fun K => opv ((binOp .lss 3 t19 (.int .i64 1)).run Try.prog w) R K) w fun t20 w =>
  pick t16 (.bool true) t20 w fun t21 w =>
  gd t21 false (fun K => opv ((Instr.fieldAt 23 t1 1).run Try.prog w) R K) w fun t23 w =>
  gd t21 false (fun K => opv ((Instr.loadAt 3 t23).run Try.prog w) R K) w fun t24 w =>
  gd t21 false (fun K => opv ((binOp .gtr 3 t24 (.int .i64 132)).run Try.prog w) R K) w fun t25 w =>
  pick t21 (.bool true) t25 w fun t26 w =>
  gd t26 false (fun K => K t8 w) w fun t28 w =>
  gd t26 false (fun K => opv ((binOp .gtr 3 t28 (.int .i64 4096)).run Try.prog w) R K) w fun t29 w =>
  pick t26 (.bool true) t29 w fun t30 w =>
  cond t30 (R (.returned (.int .i64 0)) w)
  (R (.returned t8) w)
theorem F63.eq (R : Ending → World → Prop) (w : World) (a0 : Value) : F63 R w a0 = shF Try.prog 63 [0,1,2,3,30] [a0] R w := by kernel_rfl
theorem F63.calls {R : Ending → World → Prop} {w : World} {a0 : Value} (h : F63 R w a0) : Calls Try.prog 63 #[a0] w R := shF_sound (F63.eq R w a0 ▸ h)

/-- greenscreen/greenscreenref02.Cells -/
def F64 (R : Ending → World → Prop) (w : World) (a0 : Value) : Prop :=
  opv ((Instr.box 23 a0).run Try.prog w) R fun t1 w =>
  opv ((Instr.fieldAt 23 t1 0).run Try.prog w) R fun t3 w =>
  opv ((Instr.loadAt 3 t3).run Try.prog w) R fun t4 w =>
  opv ((binOp .lss 3 t4 (.int .i64 1)).run Try.prog w) R fun t5 w =>
  gd t5 false (fun K => opv ((Instr.fieldAt 23 t1 0).run Try.prog w) R K) w fun t7 w =>
  gd t5 false (fun K => opv ((Instr.loadAt 3 t7).run Try.prog w) R K) w fun t8 w =>
  gd t5 false (fun K => opv ((binOp .gtr 3 t8 (.int .i64 43)).run Try.prog w) R K) w fun t9 w =>
  pick t5 (.bool true) t9 w fun t10 w =>
  gd t10 false (fun K => opv ((Instr.fieldAt 23 t1 1).run Try.prog w) R K) w fun t12 w =>
  gd t10 false (fun K => opv ((Instr.loadAt 3 t12).run Try.prog w) R K) w fun t13 w =>
  gd t10 false (fun K => opv ((binOp .lss 3 t13 (.int .i64 1)).run Try.prog w) R K) w fun t14 w =>
  pick t10 (.bool true) t14 w fun t15 w =>
  gd t15 false (fun K => opv ((Instr.fieldAt 23 t1 1).run Try.prog w) R K) w fun t17 w =>
  gd t15 false (fun K => opv ((Instr.loadAt 3 t17).run Try.prog w) R K) w fun t18 w =>
  gd t15 false (fun K => opv ((binOp .gtr 3 t18 (.int .i64 132)).run Try.prog w) R K) w fun t19 w =>
  pick t15 (.bool true) t19 w fun t20 w =>
  gd t20 false (fun K => opv ((Instr.fieldAt 23 t1 0).run Try.prog w) R K) w fun t22 w =>
  gd t20 false (fun K => opv ((Instr.loadAt 3 t22).run Try.prog w) R K) w fun t23 w =>
  gd t20 false (fun K => opv ((Instr.fieldAt 23 t1 1).run Try.prog w) R K) w fun t24 w =>
  gd t20 false (fun K => opv ((Instr.loadAt 3 t24).run Try.prog w) R K) w fun t25 w =>
  gd t20 false (fun K => opv ((binOp .mul 3 t23 t25).run Try.prog w) R K) w fun t26 w =>
  gd t20 false (fun K => opv ((binOp .gtr 3 t26 (.int .i64 4096)).run Try.prog w) R K) w fun t27 w =>
  pick t20 (.bool true) t27 w fun t28 w =>
  cond t28 (R (.returned (.int .i64 0)) w)
  (opv ((Instr.fieldAt 23 t1 0).run Try.prog w) R fun t29 w =>
  opv ((Instr.loadAt 3 t29).run Try.prog w) R fun t30 w =>
  opv ((Instr.fieldAt 23 t1 1).run Try.prog w) R fun t31 w =>
  opv ((Instr.loadAt 3 t31).run Try.prog w) R fun t32 w =>
  opv ((binOp .mul 3 t30 t32).run Try.prog w) R fun t33 w =>
  R (.returned t33) w)
theorem F64.eq (R : Ending → World → Prop) (w : World) (a0 : Value) : F64 R w a0 = shF Try.prog 64 [0,1,2,28] [a0] R w := by kernel_rfl
theorem F64.calls {R : Ending → World → Prop} {w : World} {a0 : Value} (h : F64 R w a0) : Calls Try.prog 64 #[a0] w R := shF_sound (F64.eq R w a0 ▸ h)

/-- greenscreen/field.All$1 -/
def F65 (R : Ending → World → Prop) (w : World) (a0 a1 : Value) : Prop :=
  opv ((Instr.loadAt 26 a1).run Try.prog w) R fun t4 w =>
  callF Try.prog 29 #[t4] w R fun t5 w =>
  loop (upd (upd (ini [a0, a1]) 5 t5) 6 (.int .i64 0)) w fun e1 g1 w j1 =>
  opv ((binOp .lss 3 (g1 6) t5).run Try.prog w) R fun t7 w =>
  cond t7 (opv ((Instr.loadAt 26 a1).run Try.prog w) R fun t9 w =>
  callF Try.prog 30 #[t9, (g1 6)] w R fun t11 w =>
  opv ((Instr.field 45 t11 2).run Try.prog w) R fun t12 w =>
  gd t12 true (fun K => K a0 w) w fun t14 w =>
  gd t12 true (fun K => opv ((Instr.loadAt 26 a1).run Try.prog w) R K) w fun t15 w =>
  gd t12 true (fun K => K (g1 6) w) w fun t16 w =>
  gd t12 true (fun K => callF Try.prog 55 #[t15, t16] w R K) w fun t17 w =>
  gd t12 true (fun K => callY Try.prog t14 #[t17] w R K) w fun t18 w =>
  gd t12 true (fun K => opv ((Op.unary .not t18).run Try.prog w) R K) w fun t19 w =>
  pick t12 t19 (.bool false) w fun t20 w =>
  cond t20 (R (.returned (.tuple #[])) w)
  (opv ((binOp .add 3 (g1 6) (.int .i64 1)).run Try.prog w) R fun t21 w =>
  j1 (upd (upd (upd (upd (mix [7,3,20,6] g1 e1) 7 t7) 3 (g1 6)) 20 t20) 6 t21) w))
  (R (.returned (.tuple #[])) w)
theorem F65.eq (R : Ending → World → Prop) (w : World) (a0 a1 : Value) : F65 R w a0 a1 = shF Try.prog 65 [0,1,3,5,6,7,20] [a0, a1] R w := by kernel_rfl
theorem F65.calls {R : Ending → World → Prop} {w : World} {a0 a1 : Value} (h : F65 R w a0 a1) : Calls Try.prog 65 #[a0, a1] w R := shF_sound (F65.eq R w a0 a1 ▸ h)

/-- greenscreen/field.Places$1 -/
def F66 (R : Ending → World → Prop) (w : World) (a0 a1 a2 : Value) : Prop :=
  drawn w fun T w =>
  qop T w (fun w K => opv ((Instr.fieldAt 39 a1 0).run Try.prog w) noR K) fun t5 =>
  qop T w (fun w K => opv ((Instr.loadAt 3 t5).run Try.prog w) noR K) fun t6 =>
  qop T w (fun w K => opv ((binOp .lss 3 t6 (.int .i64 0)).run Try.prog w) noR K) fun t7 =>
  qop T w (fun w K => gd t7 false (fun K => opv ((Instr.fieldAt 39 a1 0).run Try.prog w) noR K) w K) fun t9 =>
  qop T w (fun w K => gd t7 false (fun K => opv ((Instr.loadAt 3 t9).run Try.prog w) noR K) w K) fun t10 =>
  qop T w (fun w K => gd t7 false (fun K => opv ((Instr.loadAt 26 a2).run Try.prog w) noR K) w K) fun t11 =>
  qop T w (fun w K => gd t7 false (fun K => callF Try.prog 29 #[t11] w noR K) w K) fun t12 =>
  qop T w (fun w K => gd t7 false (fun K => opv ((binOp .geq 3 t10 t12).run Try.prog w) noR K) w K) fun t13 =>
  qop T w (fun w K => pick t7 (.bool true) t13 w K) fun t14 =>
  ext w fun w =>
  cond t14 (R (.returned (.tuple #[])) w)
  (drawn w fun T w =>
  qop T w (fun w K => opv ((Instr.fieldAt 39 a1 1).run Try.prog w) noR K) fun t15 =>
  qop T w (fun w K => opv ((Instr.loadAt 3 t15).run Try.prog w) noR K) fun t16 =>
  qop T w (fun w K => opv ((Builtin.max_ #[3, 3] 3 #[t16, (.int .i64 0)]).run Try.prog w) noR K) fun t17 =>
  qop T w (fun w K => opv ((Instr.loadAt 26 a2).run Try.prog w) noR K) fun t18 =>
  qop T w (fun w K => callF Try.prog 29 #[t18] w noR K) fun t19 =>
  qop T w (fun w K => opv ((Builtin.min_ #[3, 3] 3 #[t17, t19]).run Try.prog w) noR K) fun t20 =>
  ext w fun w =>
  loop (upd (upd (upd (ini [a0, a1, a2]) 14 t14) 20 t20) 21 (.int .i64 0)) w fun e1 g1 w j1 =>
  opv ((binOp .lss 3 (g1 21) t20).run Try.prog w) R fun t22 w =>
  cond t22 (drawn w fun T w =>
  qop T w (fun w K => opv ((Instr.loadAt 26 a2).run Try.prog w) noR K) fun t25 =>
  qop T w (fun w K => callF Try.prog 44 #[t25] w noR K) fun t26 =>
  qop T w (fun w K => opv ((Instr.fieldAt 39 a1 0).run Try.prog w) noR K) fun t27 =>
  qop T w (fun w K => opv ((Instr.loadAt 3 t27).run Try.prog w) noR K) fun t28 =>
  qop T w (fun w K => opv ((binOp .add 3 (g1 21) (.int .i64 1)).run Try.prog w) noR K) fun t30 =>
  qop T w (fun w K => callF Try.prog 43 #[t26, t28, t30] w noR K) fun t31 =>
  ext w fun w =>
  lop T w (fun w K => callY Try.prog a0 #[t31] w R K) fun t32 w =>
  qop T w (fun w K => opv ((Op.unary .not t32).run Try.prog w) noR K) fun t33 =>
  ext w fun w =>
  cond t33 (R (.returned (.tuple #[])) w)
  (opv ((binOp .add 3 (g1 21) (.int .i64 1)).run Try.prog w) R fun t34 w =>
  j1 (upd (upd (upd (upd (mix [22,4,33,21] g1 e1) 22 t22) 4 (g1 21)) 33 t33) 21 t34) w))
  (R (.returned (.tuple #[])) w))
theorem F66.eq (R : Ending → World → Prop) (w : World) (a0 a1 a2 : Value) : F66 R w a0 a1 a2 = shF Try.prog 66 [0,1,2,4,14,20,21,22,33] [a0, a1, a2] R w := by kernel_rfl
theorem F66.calls {R : Ending → World → Prop} {w : World} {a0 a1 a2 : Value} (h : F66 R w a0 a1 a2) : Calls Try.prog 66 #[a0, a1, a2] w R := shF_sound (F66.eq R w a0 a1 a2 ▸ h)

/-- greenscreen/greenscreenref01.Seen -/
def F72 (R : Ending → World → Prop) (w : World) (a0 : Value) : Prop :=
  opv ((binOp .geq 5 a0 (.int .u8 64)).run Try.prog w) R fun t4 w =>
  gd t4 true (fun K => K a0 w) w fun t6 w =>
  gd t4 true (fun K => opv ((binOp .leq 5 t6 (.int .u8 254)).run Try.prog w) R K) w fun t7 w =>
  pick t4 t7 (.bool false) w fun t8 w =>
  R (.returned t8) w
theorem F72.eq (R : Ending → World → Prop) (w : World) (a0 : Value) : F72 R w a0 = shF Try.prog 72 [0,2] [a0] R w := by kernel_rfl
theorem F72.calls {R : Ending → World → Prop} {w : World} {a0 : Value} (h : F72 R w a0) : Calls Try.prog 72 #[a0] w R := shF_sound (F72.eq R w a0 ▸ h)

/-- greenscreen/greenscreenref01.Sign -/
def F73 (R : Ending → World → Prop) (w : World) (a0 a1 : Value) : Prop :=
  opv ((Instr.buildSlice 43 0 #[]).run Try.prog w) R fun t9 w =>
  opv ((Instr.buildSlice 104 0 #[]).run Try.prog w) R fun t10 w =>
  join (upd (upd (upd (ini [a0, a1]) 4 (.int .i32 0)) 5 t9) 6 t10) (fun j1 =>
  opv ((binE true .eql 3 a0 (.int .i64 500)).run Try.prog w) R fun t12 w =>
  cond t12 (opv ((Instr.buildSlice 43 7 #[(0, (.int .u8 74)), (1, (.int .u8 79)), (2, (.int .u8 90)), (3, (.int .u8 95)), (4, (.int .u8 176)), (5, (.int .u8 186)), (6, (.int .u8 187))]).run Try.prog w) R fun t13 w =>
  opv ((Instr.buildSlice 104 7 #[(0, (.int .i32 91)), (1, (.int .i32 33)), (2, (.int .i32 93)), (3, (.int .i32 94)), (4, (.int .i32 162)), (5, (.int .i32 172)), (6, (.int .i32 124))]).run Try.prog w) R fun t14 w =>
  j1 (upd (upd (upd (upd (upd (upd (ini [a0, a1]) 4 (.int .i32 0)) 5 t9) 6 t10) 12 t12) 5 t13) 6 t14) w)
  (j1 (upd (upd (upd (upd (ini [a0, a1]) 4 (.int .i32 0)) 5 t9) 6 t10) 12 t12) w)) fun e1 g1 w =>
  join (mix [12,5,6] g1 e1) (fun j2 =>
  opv ((binE true .eql 3 a0 (.int .i64 1047)).run Try.prog w) R fun t16 w =>
  cond t16 (opv ((Instr.buildSlice 43 6 #[(0, (.int .u8 95)), (1, (.int .u8 173)), (2, (.int .u8 176)), (3, (.int .u8 186)), (4, (.int .u8 187)), (5, (.int .u8 189))]).run Try.prog w) R fun t17 w =>
  opv ((Instr.buildSlice 104 6 #[(0, (.int .i32 94)), (1, (.int .i32 91)), (2, (.int .i32 172)), (3, (.int .i32 221)), (4, (.int .i32 168)), (5, (.int .i32 93))]).run Try.prog w) R fun t18 w =>
  j2 (upd (upd (upd (mix [12,5,6] g1 e1) 16 t16) 5 t17) 6 t18) w)
  (j2 (upd (mix [12,5,6] g1 e1) 16 t16) w)) fun e2 g2 w =>
  join (mix [16,5,6] g2 e2) (fun j3 =>
  loop (upd (mix [16,5,6] g2 e2) 7 (.int .i64 0)) w fun e4 g4 w j4 =>
  opv ((Builtin.len_ #[43] 3 #[(g2 5)]).run Try.prog w) R fun t21 w =>
  opv ((binOp .lss 3 (g4 7) t21).run Try.prog w) R fun t22 w =>
  cond t22 (opv ((Instr.indexAt 43 (g2 5) (g4 7)).run Try.prog w) R fun t27 w =>
  opv ((Instr.loadAt 5 t27).run Try.prog w) R fun t28 w =>
  opv ((binE false .eql 5 t28 a1).run Try.prog w) R fun t30 w =>
  cond t30 (opv ((Instr.indexAt 104 (g2 6) (g4 7)).run Try.prog w) R fun t33 w =>
  opv ((Instr.loadAt 21 t33).run Try.prog w) R fun t34 w =>
  R (.returned t34) w)
  (opv ((binOp .add 3 (g4 7) (.int .i64 1)).run Try.prog w) R fun t24 w =>
  j4 (upd (upd (upd (mix [22,30,4,7] g4 e4) 22 t22) 30 t30) 7 t24) w))
  (j3 (upd (mix [22,30,4,7] g4 e4) 22 t22) w)) fun e3 g3 w =>
  callF Try.prog 83 #[] w R fun t35 w =>
  drawn w fun T w =>
  qop T w (fun w K => opv ((convert 5 3 a1).run Try.prog w) noR K) fun t38 =>
  qop T w (fun w K => opv ((binOp .mul 3 (.int .i64 2) t38).run Try.prog w) noR K) fun t39 =>
  qop T w (fun w K => opv ((Instr.index 9 t35 t39).run Try.prog w) noR K) fun t40 =>
  qop T w (fun w K => callF Try.prog 84 #[t40] w noR K) fun t41 =>
  qop T w (fun w K => opv ((binOp .mul 3 (.int .i64 16) t41).run Try.prog w) noR K) fun t42 =>
  qop T w (fun w K => opv ((convert 5 3 a1).run Try.prog w) noR K) fun t45 =>
  qop T w (fun w K => opv ((binOp .mul 3 (.int .i64 2) t45).run Try.prog w) noR K) fun t46 =>
  qop T w (fun w K => opv ((binOp .add 3 t46 (.int .i64 1)).run Try.prog w) noR K) fun t47 =>
  qop T w (fun w K => opv ((Instr.index 9 t35 t47).run Try.prog w) noR K) fun t48 =>
  qop T w (fun w K => callF Try.prog 84 #[t48] w noR K) fun t49 =>
  qop T w (fun w K => opv ((binOp .add 3 t42 t49).run Try.prog w) noR K) fun t50 =>
  qop T w (fun w K => opv ((convert 3 21 t50).run Try.prog w) noR K) fun t51 =>
  ext w fun w =>
  R (.returned t51) w
theorem F73.eq (R : Ending → World → Prop) (w : World) (a0 a1 : Value) : F73 R w a0 a1 = shF Try.prog 73 [0,1,4,5,6,7,8,12,16,22,30] [a0, a1] R w := by kernel_rfl
theorem F73.calls {R : Ending → World → Prop} {w : World} {a0 a1 : Value} (h : F73 R w a0 a1) : Calls Try.prog 73 #[a0, a1] w R := shF_sound (F73.eq R w a0 a1 ▸ h)

/-- greenscreen/code.Table -/
def F74 (R : Ending → World → Prop) (w : World) (a0 : Value) : Prop :=
  opv ((Instr.alloc 118 true (.tuple #[])).run Try.prog w) R fun t2 w =>
  opv ((Instr.alloc 118 true (.tuple #[])).run Try.prog w) R fun t3 w =>
  join (upd (upd (ini [a0]) 2 t2) 3 t3) (fun j1 =>
  callF Try.prog 85 #[] w R fun t8 w =>
  loop (upd (upd (upd (upd (ini [a0]) 2 t2) 3 t3) 8 t8) 9 (.int .i64 0)) w fun e2 g2 w j2 =>
  opv ((binOp .lss 3 (g2 9) (.int .i64 256)).run Try.prog w) R fun t10 w =>
  cond t10 (opv ((Instr.index 129 t8 (g2 9)).run Try.prog w) R fun t12 w =>
  opv ((convert 5 21 t12).run Try.prog w) R fun t15 w =>
  opv ((Instr.indexAt 118 t3 (g2 9)).run Try.prog w) R fun t16 w =>
  opu ((Instr.storeAt 21 t16 t15).run Try.prog w) R fun _ w =>
  opv ((binOp .add 3 (g2 9) (.int .i64 1)).run Try.prog w) R fun t17 w =>
  j2 (upd (upd (upd (upd (mix [10,4,5,9] g2 e2) 10 t10) 4 (g2 9)) 5 t12) 9 t17) w)
  (j1 (upd (mix [10,4,5,9] g2 e2) 10 t10) w)) fun e1 g1 w =>
  join (mix [8,10,4,5,9] g1 e1) (fun j3 =>
  callF Try.prog 86 #[a0] w R fun t19 w =>
  opv ((Builtin.len_ #[131] 3 #[t19]).run Try.prog w) R fun t20 w =>
  loop (upd (upd (upd (mix [8,10,4,5,9] g1 e1) 19 t19) 20 t20) 21 (.int .i64 0)) w fun e4 g4 w j4 =>
  opv ((binOp .lss 3 (g4 21) t20).run Try.prog w) R fun t22 w =>
  cond t22 (opv ((Instr.indexAt 131 t19 (g4 21)).run Try.prog w) R fun t23 w =>
  opv ((Instr.loadAt 134 t23).run Try.prog w) R fun t24 w =>
  opv ((Instr.alloc 134 true (.tuple #[])).run Try.prog w) R fun t7 w =>
  opu ((Instr.storeAt 134 t7 t24).run Try.prog w) R fun _ w =>
  opv ((Instr.fieldAt 134 t7 0).run Try.prog w) R fun t25 w =>
  opv ((Instr.loadAt 5 t25).run Try.prog w) R fun t26 w =>
  opv ((Instr.fieldAt 134 t7 1).run Try.prog w) R fun t27 w =>
  opv ((Instr.loadAt 5 t27).run Try.prog w) R fun t28 w =>
  opv ((convert 5 21 t28).run Try.prog w) R fun t29 w =>
  opv ((Instr.indexAt 118 t3 t26).run Try.prog w) R fun t30 w =>
  opu ((Instr.storeAt 21 t30 t29).run Try.prog w) R fun _ w =>
  opv ((binOp .add 3 (g4 21) (.int .i64 1)).run Try.prog w) R fun t31 w =>
  j4 (upd (upd (upd (mix [22,7,21] g4 e4) 22 t22) 7 t7) 21 t31) w)
  (j3 (upd (mix [22,7,21] g4 e4) 22 t22) w)) fun e3 g3 w =>
  opv ((Instr.loadAt 118 t3).run Try.prog w) R fun t32 w =>
  opu ((Instr.storeAt 118 t2 t32).run Try.prog w) R fun _ w =>
  ldv ((Instr.loadAt 118 t2).run Try.prog w) w fun r0 =>
  R (.returned r0) w
theorem F74.eq (R : Ending → World → Prop) (w : World) (a0 : Value) : F74 R w a0 = shF Try.prog 74 [0,2,3,4,5,7,8,9,10,19,20,21,22] [a0] R w := by kernel_rfl
theorem F74.calls {R : Ending → World → Prop} {w : World} {a0 : Value} (h : F74 R w a0) : Calls Try.prog 74 #[a0] w R := shF_sound (F74.eq R w a0 ▸ h)

/-- greenscreen/code.Graphic -/
def F75 (R : Ending → World → Prop) (w : World) (a0 : Value) : Prop :=
  opv ((binOp .geq 5 a0 (.int .u8 64)).run Try.prog w) R fun t4 w =>
  gd t4 true (fun K => K a0 w) w fun t6 w =>
  gd t4 true (fun K => opv ((binOp .leq 5 t6 (.int .u8 254)).run Try.prog w) R K) w fun t7 w =>
  pick t4 t7 (.bool false) w fun t8 w =>
  R (.returned t8) w
theorem F75.eq (R : Ending → World → Prop) (w : World) (a0 : Value) : F75 R w a0 = shF Try.prog 75 [0,2] [a0] R w := by kernel_rfl
theorem F75.calls {R : Ending → World → Prop} {w : World} {a0 : Value} (h : F75 R w a0) : Calls Try.prog 75 #[a0] w R := shF_sound (F75.eq R w a0 ▸ h)

/-- greenscreen/code.Special -/
def F76 (R : Ending → World → Prop) (w : World) (a0 : Value) : Prop :=
  opv ((convert 5 21 a0).run Try.prog w) R fun t4 w =>
  opv ((binOp .add 21 (.int .i32 57344) t4).run Try.prog w) R fun t5 w =>
  R (.returned t5) w
theorem F76.eq (R : Ending → World → Prop) (w : World) (a0 : Value) : F76 R w a0 = shF Try.prog 76 [0,2] [a0] R w := by kernel_rfl
theorem F76.calls {R : Ending → World → Prop} {w : World} {a0 : Value} (h : F76 R w a0) : Calls Try.prog 76 #[a0] w R := shF_sound (F76.eq R w a0 ▸ h)

/-- greenscreen/attr.Modify -/
def F77 (R : Ending → World → Prop) (w : World) (a0 a1 : Value) : Prop :=
  cond a1 (opv ((binOp .or 5 a0 (.int .u8 1)).run Try.prog w) R fun t7 w =>
  R (.returned t7) w)
  (opv ((binOp .andNot 5 a0 (.int .u8 1)).run Try.prog w) R fun t9 w =>
  R (.returned t9) w)
theorem F77.eq (R : Ending → World → Prop) (w : World) (a0 a1 : Value) : F77 R w a0 a1 = shF Try.prog 77 [0,1,4,5] [a0, a1] R w := by kernel_rfl
theorem F77.calls {R : Ending → World → Prop} {w : World} {a0 a1 : Value} (h : F77 R w a0 a1) : Calls Try.prog 77 #[a0, a1] w R := shF_sound (F77.eq R w a0 a1 ▸ h)

/-- greenscreen/greenscreenref01.list -/
def F83 (R : Ending → World → Prop) (w : World) : Prop :=
  R (.returned (.string ⟨#[48, 48, 48, 49, 48, 50, 48, 51, 57, 67, 48, 57, 56, 54, 55, 70, 57, 55, 56, 68, 56, 69, 48, 66, 48, 67, 48, 68, 48, 69, 48, 70, 49, 48, 49, 49, 49, 50, 49, 51, 57, 68, 56, 53, 48, 56, 56, 55, 49, 56, 49, 57, 57, 50, 56, 70, 49, 67, 49, 68, 49, 69, 49, 70, 56, 48, 56, 49, 56, 50, 56, 51, 56, 52, 48, 65, 49, 55, 49, 66, 56, 56, 56, 57, 56, 65, 56, 66, 56, 67, 48, 53, 48, 54, 48, 55, 57, 48, 57, 49, 49, 54, 57, 51, 57, 52, 57, 53, 57, 54, 48, 52, 57, 56, 57, 57, 57, 65, 57, 66, 49, 52, 49, 53, 57, 69, 49, 65, 50, 48, 65, 48, 69, 50, 69, 52, 69, 48, 69, 49, 69, 51, 69, 53, 69, 55, 70, 49, 65, 50, 50, 69, 51, 67, 50, 56, 50, 66, 55, 67, 50, 54, 69, 57, 69, 65, 69, 66, 69, 56, 69, 68, 69, 69, 69, 70, 69, 67, 68, 70, 50, 49, 50, 52, 50, 65, 50, 57, 51, 66, 65, 67, 50, 68, 50, 70, 67, 50, 67, 52, 67, 48, 67, 49, 67, 51, 67, 53, 67, 55, 68, 49, 65, 54, 50, 67, 50, 53, 53, 70, 51, 69, 51, 70, 70, 56, 67, 57, 67, 65, 67, 66, 67, 56, 67, 68, 67, 69, 67, 70, 67, 67, 54, 48, 51, 65, 50, 51, 52, 48, 50, 55, 51, 68, 50, 50, 68, 56, 54, 49, 54, 50, 54, 51, 54, 52, 54, 53, 54, 54, 54, 55, 54, 56, 54, 57, 65, 66, 66, 66, 70, 48, 70, 68, 70, 69, 66, 49, 66, 48, 54, 65, 54, 66, 54, 67, 54, 68, 54, 69, 54, 70, 55, 48, 55, 49, 55, 50, 65, 65, 66, 65, 69, 54, 66, 56, 67, 54, 65, 52, 66, 53, 55, 69, 55, 51, 55, 52, 55, 53, 55, 54, 55, 55, 55, 56, 55, 57, 55, 65, 65, 49, 66, 70, 68, 48, 68, 68, 68, 69, 65, 69, 53, 69, 65, 51, 65, 53, 66, 55, 65, 57, 65, 55, 66, 54, 66, 67, 66, 68, 66, 69, 53, 66, 53, 68, 65, 70, 65, 56, 66, 52, 68, 55, 55, 66, 52, 49, 52, 50, 52, 51, 52, 52, 52, 53, 52, 54, 52, 55, 52, 56, 52, 57, 65, 68, 70, 52, 70, 54, 70, 50, 70, 51, 70, 53, 55, 68, 52, 65, 52, 66, 52, 67, 52, 68, 52, 69, 52, 70, 53, 48, 53, 49, 53, 50, 66, 57, 70, 66, 70, 67, 70, 57, 70, 65, 70, 70, 53, 67, 70, 55, 53, 51, 53, 52, 53, 53, 53, 54, 53, 55, 53, 56, 53, 57, 53, 65, 66, 50, 68, 52, 68, 54, 68, 50, 68, 51, 68, 53, 51, 48, 51, 49, 51, 50, 51, 51, 51, 52, 51, 53, 51, 54, 51, 55, 51, 56, 51, 57, 66, 51, 68, 66, 68, 67, 68, 57, 68, 65, 57, 70]⟩)) w
theorem F83.eq (R : Ending → World → Prop) (w : World) : F83 R w  = shF Try.prog 83 [0] [] R w := by kernel_rfl
theorem F83.calls {R : Ending → World → Prop} {w : World} (h : F83 R w ) : Calls Try.prog 83 #[] w R := shF_sound (F83.eq R w  ▸ h)

/-- greenscreen/greenscreenref01.value -/
def F84 (R : Ending → World → Prop) (w : World) (a0 : Value) : Prop :=
  opv ((binOp .geq 5 a0 (.int .u8 65)).run Try.prog w) R fun t4 w =>
  cond t4 (opv ((convert 5 3 a0).run Try.prog w) R fun t6 w =>
  opv ((binOp .sub 3 t6 (.int .i64 55)).run Try.prog w) R fun t7 w =>
  R (.returned t7) w)
  (opv ((convert 5 3 a0).run Try.prog w) R fun t9 w =>
  opv ((binOp .sub 3 t9 (.int .i64 48)).run Try.prog w) R fun t10 w =>
  R (.returned t10) w)
theorem F84.eq (R : Ending → World → Prop) (w : World) (a0 : Value) : F84 R w a0 = shF Try.prog 84 [0,2,4] [a0] R w := by kernel_rfl
theorem F84.calls {R : Ending → World → Prop} {w : World} {a0 : Value} (h : F84 R w a0) : Calls Try.prog 84 #[a0] w R := shF_sound (F84.eq R w a0 ▸ h)

/-- greenscreen/code.swaps -/
def F86 (R : Ending → World → Prop) (w : World) (a0 : Value) : Prop :=
  opv ((binE true .eql 3 a0 (.int .i64 500)).run Try.prog w) R fun t5 w =>
  cond t5 (opv ((Instr.build 134 #[(0, (.int .u8 74)), (1, (.int .u8 91))]).run Try.prog w) R fun t6 w =>
  opv ((Instr.build 134 #[(0, (.int .u8 79)), (1, (.int .u8 33))]).run Try.prog w) R fun t7 w =>
  opv ((Instr.build 134 #[(0, (.int .u8 90)), (1, (.int .u8 93))]).run Try.prog w) R fun t8 w =>
  opv ((Instr.build 134 #[(0, (.int .u8 95)), (1, (.int .u8 94))]).run Try.prog w) R fun t9 w =>
  opv ((Instr.build 134 #[(0, (.int .u8 176)), (1, (.int .u8 162))]).run Try.prog w) R fun t10 w =>
  opv ((Instr.build 134 #[(0, (.int .u8 186)), (1, (.int .u8 172))]).run Try.prog w) R fun t11 w =>
  opv ((Instr.build 134 #[(0, (.int .u8 187)), (1, (.int .u8 124))]).run Try.prog w) R fun t12 w =>
  opv ((Instr.buildSlice 131 7 #[(0, t6), (1, t7), (2, t8), (3, t9), (4, t10), (5, t11), (6, t12)]).run Try.prog w) R fun t13 w =>
  R (.returned t13) w)
  (opv ((binE true .eql 3 a0 (.int .i64 1047)).run Try.prog w) R fun t15 w =>
  cond t15 (opv ((Instr.build 134 #[(0, (.int .u8 95)), (1, (.int .u8 94))]).run Try.prog w) R fun t16 w =>
  opv ((Instr.build 134 #[(0, (.int .u8 173)), (1, (.int .u8 91))]).run Try.prog w) R fun t17 w =>
  opv ((Instr.build 134 #[(0, (.int .u8 176)), (1, (.int .u8 172))]).run Try.prog w) R fun t18 w =>
  opv ((Instr.build 134 #[(0, (.int .u8 186)), (1, (.int .u8 221))]).run Try.prog w) R fun t19 w =>
  opv ((Instr.build 134 #[(0, (.int .u8 187)), (1, (.int .u8 168))]).run Try.prog w) R fun t20 w =>
  opv ((Instr.build 134 #[(0, (.int .u8 189)), (1, (.int .u8 93))]).run Try.prog w) R fun t21 w =>
  opv ((Instr.buildSlice 131 6 #[(0, t16), (1, t17), (2, t18), (3, t19), (4, t20), (5, t21)]).run Try.prog w) R fun t22 w =>
  R (.returned t22) w)
  (R (.returned (.slice none 0 0)) w))
theorem F86.eq (R : Ending → World → Prop) (w : World) (a0 : Value) : F86 R w a0 = shF Try.prog 86 [0,2,3,4,14] [a0] R w := by kernel_rfl
theorem F86.calls {R : Ending → World → Prop} {w : World} {a0 : Value} (h : F86 R w a0) : Calls Try.prog 86 #[a0] w R := shF_sound (F86.eq R w a0 ▸ h)

end Go.Proofs.Ytojcbhkhfcddnaa
