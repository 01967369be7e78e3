/-
  Shallow forms of functions of the loaded program, each tied to it. No condition.
-/
import Derived.Test.YtkjkmahpkfbbnaaDoorProg
import Derived.Test.YtkjkmahpkfbbnaaDoorShSound
import Derived.KernelRfl
namespace Go.Proofs.YtkjkmahpkfbbnaaDoor
open Go Go.Sh
set_option linter.unusedVariables false
set_option maxRecDepth 100000
/-- greenscreen/grammar.Parse -/
def F8 (R : Ending → World → Prop) (w : World) (a0 : Value) : Prop :=
  opv ((Instr.alloc 26 true (.tuple #[])).run Tryd.prog w) R fun t2 w =>
  callF Tryd.prog 22 #[a0, (.func (.func 23) #[] #[])] w R fun t5 w =>
  opv ((Instr.extract t5 0).run Tryd.prog w) R fun t6 w =>
  opv ((Instr.extract t5 1).run Tryd.prog w) R fun t7 w =>
  opu ((Instr.storeAt 26 t2 t6).run Tryd.prog w) R fun _ w =>
  ldv ((Instr.loadAt 26 t2).run Tryd.prog w) w fun r0 =>
  R (.returned (.tuple #[r0, t7])) w
theorem F8.eq (R : Ending → World → Prop) (w : World) (a0 : Value) : F8 R w a0 = shF Tryd.prog 8 [0,2,3] [a0] R w := by kernel_rfl
theorem F8.calls {R : Ending → World → Prop} {w : World} {a0 : Value} (h : F8 R w a0) : Calls Tryd.prog 8 #[a0] w R := shF_sound (F8.eq R w a0 ▸ h)

/-- greenscreen/greenscreenref25.Parse -/
def F9 (R : Ending → World → Prop) (w : World) (a0 : Value) : Prop :=
  opv ((Instr.alloc 32 true (.tuple #[])).run Tryd.prog w) R fun t2 w =>
  opv ((Builtin.len_ #[22] 3 #[a0]).run Tryd.prog w) R fun t11 w =>
  opv ((binE true .eql 3 t11 (.int .i64 0)).run Tryd.prog w) R fun t12 w =>
  gd t12 false (fun K => K a0 w) w fun t14 w =>
  gd t12 false (fun K => opv ((Builtin.len_ #[22] 3 #[t14]).run Tryd.prog w) R K) w fun t15 w =>
  gd t12 false (fun K => opv ((binE true .eql 3 t15 (.int .i64 2)).run Tryd.prog w) R K) w fun t16 w =>
  pick t12 (.bool true) t16 w fun t17 w =>
  cond t17 (opv ((Instr.build 32 #[]).run Tryd.prog w) R fun t18 w =>
  opu ((Instr.storeAt 32 t2 t18).run Tryd.prog w) R fun _ w =>
  ldv ((Instr.loadAt 32 t2).run Tryd.prog w) w fun r0 =>
  R (.returned (.tuple #[r0, (.int .i64 20)])) w)
  (opv ((Builtin.len_ #[22] 3 #[a0]).run Tryd.prog w) R fun t20 w =>
  opv ((binE true .eql 3 t20 (.int .i64 1)).run Tryd.prog w) R fun t21 w =>
  cond t21 (opv ((Instr.indexAt 22 a0 (.int .i64 0)).run Tryd.prog w) R fun t23 w =>
  opv ((Instr.loadAt 5 t23).run Tryd.prog w) R fun t24 w =>
  opv ((Instr.build 32 #[(0, t24), (1, (.bool true))]).run Tryd.prog w) R fun t25 w =>
  opu ((Instr.storeAt 32 t2 t25).run Tryd.prog w) R fun _ w =>
  ldv ((Instr.loadAt 32 t2).run Tryd.prog w) w fun r0 =>
  R (.returned (.tuple #[r0, (.int .i64 0)])) w)
  (drawn w fun T w =>
  qop T w (fun w K => opv ((Instr.indexAt 22 a0 (.int .i64 0)).run Tryd.prog w) noR K) fun t27 =>
  qop T w (fun w K => opv ((Instr.loadAt 5 t27).run Tryd.prog w) noR K) fun t28 =>
  qop T w (fun w K => opv ((Instr.indexAt 22 a0 (.int .i64 1)).run Tryd.prog w) noR K) fun t30 =>
  qop T w (fun w K => opv ((Instr.loadAt 5 t30).run Tryd.prog w) noR K) fun t31 =>
  qop T w (fun w K => opv ((Instr.indexAt 22 a0 (.int .i64 2)).run Tryd.prog w) noR K) fun t33 =>
  qop T w (fun w K => opv ((Instr.loadAt 5 t33).run Tryd.prog w) noR K) fun t34 =>
  qop T w (fun w K => callF Tryd.prog 24 #[t31, t34] w noR K) fun t35 =>
  qop T w (fun w K => opv ((Instr.build 32 #[(0, t28), (2, t35)]).run Tryd.prog w) noR K) fun t36 =>
  ext w fun w =>
  lop T w (fun w K => opv ((Instr.alloc 32 true (.tuple #[])).run Tryd.prog w) R K) fun t4 w =>
  ext w fun w =>
  opu ((Instr.storeAt 32 t4 t36).run Tryd.prog w) R fun _ w =>
  ext w fun w =>
  join (upd (upd (upd (upd (upd (upd (ini [a0]) 2 t2) 3 (.int .i64 0)) 17 t17) 21 t21) 4 t4) 5 (.int .i64 3)) (fun j1 =>
  loop (upd (upd (upd (upd (upd (upd (ini [a0]) 2 t2) 3 (.int .i64 0)) 17 t17) 21 t21) 4 t4) 5 (.int .i64 3)) w fun e2 g2 w j2 =>
  opv ((Builtin.len_ #[22] 3 #[a0]).run Tryd.prog w) R fun t39 w =>
  opv ((binOp .lss 3 (g2 5) t39).run Tryd.prog w) R fun t40 w =>
  cond t40 (opv ((Instr.build 65 #[(0, (.int .i64 (-1)))]).run Tryd.prog w) R fun t41 w =>
  opv ((Instr.alloc 65 true (.tuple #[])).run Tryd.prog w) R fun t6 w =>
  opu ((Instr.storeAt 65 t6 t41).run Tryd.prog w) R fun _ w =>
  join (upd (upd (mix [40,6,46,51,77,7,8,9,86,3,5] g2 e2) 40 t40) 6 t6) (fun j3 =>
  opv ((Instr.indexAt 22 a0 (g2 5)).run Tryd.prog w) R fun t44 w =>
  opv ((Instr.loadAt 5 t44).run Tryd.prog w) R fun t45 w =>
  opv ((binE true .eql 5 t45 (.int .u8 17)).run Tryd.prog w) R fun t46 w =>
  cond t46 (opv ((binOp .add 3 (g2 5) (.int .i64 2)).run Tryd.prog w) R fun t48 w =>
  opv ((Builtin.len_ #[22] 3 #[a0]).run Tryd.prog w) R fun t50 w =>
  opv ((binOp .geq 3 t48 t50).run Tryd.prog w) R fun t51 w =>
  cond t51 (opv ((Instr.build 32 #[]).run Tryd.prog w) R fun t52 w =>
  opu ((Instr.storeAt 32 t2 t52).run Tryd.prog w) R fun _ w =>
  ldv ((Instr.loadAt 32 t2).run Tryd.prog w) w fun r0 =>
  R (.returned (.tuple #[r0, (.int .i64 20)])) w)
  (drawn w fun T w =>
  qop T w (fun w K => opv ((binOp .add 3 (g2 5) (.int .i64 1)).run Tryd.prog w) noR K) fun t55 =>
  qop T w (fun w K => opv ((Instr.indexAt 22 a0 t55).run Tryd.prog w) noR K) fun t56 =>
  qop T w (fun w K => opv ((Instr.loadAt 5 t56).run Tryd.prog w) noR K) fun t57 =>
  qop T w (fun w K => opv ((binOp .add 3 (g2 5) (.int .i64 2)).run Tryd.prog w) noR K) fun t60 =>
  qop T w (fun w K => opv ((Instr.indexAt 22 a0 t60).run Tryd.prog w) noR K) fun t61 =>
  qop T w (fun w K => opv ((Instr.loadAt 5 t61).run Tryd.prog w) noR K) fun t62 =>
  qop T w (fun w K => callF Tryd.prog 24 #[t57, t62] w noR K) fun t63 =>
  qop T w (fun w K => opv ((Instr.fieldAt 65 t6 0).run Tryd.prog w) noR K) fun t64 =>
  ext w fun w =>
  opu ((Instr.storeAt 3 t64 t63).run Tryd.prog w) R fun _ w =>
  ext w fun w =>
  opv ((binOp .add 3 (g2 5) (.int .i64 3)).run Tryd.prog w) R fun t66 w =>
  j3 (upd (upd (upd (upd (upd (mix [40,6,46,51,77,7,8,9,86,3,5] g2 e2) 40 t40) 6 t6) 46 t46) 51 t51) 5 t66) w))
  (j3 (upd (upd (upd (mix [40,6,46,51,77,7,8,9,86,3,5] g2 e2) 40 t40) 6 t6) 46 t46) w)) fun e3 g3 w =>
  join (mix [46,51,3,5] g3 e3) (fun j4 =>
  loop (mix [46,51,3,5] g3 e3) w fun e5 g5 w j5 =>
  opv ((Builtin.len_ #[22] 3 #[a0]).run Tryd.prog w) R fun t69 w =>
  opv ((binOp .lss 3 (g5 5) t69).run Tryd.prog w) R fun t70 w =>
  gd t70 true (fun K => K a0 w) w fun t72 w =>
  gd t70 true (fun K => K (g5 5) w) w fun t73 w =>
  gd t70 true (fun K => opv ((Instr.indexAt 22 t72 t73).run Tryd.prog w) R K) w fun t74 w =>
  gd t70 true (fun K => opv ((Instr.loadAt 5 t74).run Tryd.prog w) R K) w fun t75 w =>
  gd t70 true (fun K => opv ((binE true .neq 5 t75 (.int .u8 17)).run Tryd.prog w) R K) w fun t76 w =>
  pick t70 t76 (.bool false) w fun t77 w =>
  cond t77 (callF Tryd.prog 25 #[a0, (g5 5)] w R fun t81 w =>
  opv ((Instr.extract t81 0).run Tryd.prog w) R fun t82 w =>
  opv ((Instr.extract t81 1).run Tryd.prog w) R fun t83 w =>
  opv ((Instr.extract t81 2).run Tryd.prog w) R fun t84 w =>
  opv ((Instr.alloc 59 true (.tuple #[])).run Tryd.prog w) R fun t7 w =>
  opu ((Instr.storeAt 59 t7 t82).run Tryd.prog w) R fun _ w =>
  opv ((binE true .neq 3 t84 (.int .i64 0)).run Tryd.prog w) R fun t86 w =>
  cond t86 (opv ((Instr.build 32 #[]).run Tryd.prog w) R fun t87 w =>
  opu ((Instr.storeAt 32 t2 t87).run Tryd.prog w) R fun _ w =>
  ldv ((Instr.loadAt 32 t2).run Tryd.prog w) w fun r0 =>
  R (.returned (.tuple #[r0, t84])) w)
  (opv ((Instr.fieldAt 65 t6 1).run Tryd.prog w) R fun t89 w =>
  opv ((Instr.loadAt 35 t89).run Tryd.prog w) R fun t90 w =>
  opv ((Instr.loadAt 59 t7).run Tryd.prog w) R fun t91 w =>
  opv ((Instr.buildSlice 35 1 #[(0, t91)]).run Tryd.prog w) R fun t92 w =>
  opv ((Builtin.append_ #[35, 35] 35 #[t90, t92]).run Tryd.prog w) R fun t93 w =>
  opv ((Instr.fieldAt 65 t6 1).run Tryd.prog w) R fun t94 w =>
  opu ((Instr.storeAt 35 t94 t93).run Tryd.prog w) R fun _ w =>
  opv ((binOp .add 3 (g5 5) t83).run Tryd.prog w) R fun t97 w =>
  j5 (upd (upd (upd (upd (upd (upd (mix [77,7,8,9,86,3,5] g5 e5) 77 t77) 7 t7) 8 t83) 9 t84) 86 t86) 5 t97) w))
  (j4 (upd (mix [77,7,8,9,86,3,5] g5 e5) 77 t77) w)) fun e4 g4 w =>
  opv ((Instr.fieldAt 32 t4 3).run Tryd.prog w) R fun t98 w =>
  opv ((Instr.loadAt 30 t98).run Tryd.prog w) R fun t99 w =>
  opv ((Instr.loadAt 65 t6).run Tryd.prog w) R fun t100 w =>
  opv ((Instr.buildSlice 30 1 #[(0, t100)]).run Tryd.prog w) R fun t101 w =>
  opv ((Builtin.append_ #[30, 30] 30 #[t99, t101]).run Tryd.prog w) R fun t102 w =>
  opv ((Instr.fieldAt 32 t4 3).run Tryd.prog w) R fun t103 w =>
  opu ((Instr.storeAt 30 t103 t102).run Tryd.prog w) R fun _ w =>
  j2 (mix [77,7,8,9,86,3,5] g4 e4) w)
  (j1 (upd (mix [40,6,46,51,77,7,8,9,86,3,5] g2 e2) 40 t40) w)) fun e1 g1 w =>
  opv ((Instr.loadAt 32 t4).run Tryd.prog w) R fun t104 w =>
  opu ((Instr.storeAt 32 t2 t104).run Tryd.prog w) R fun _ w =>
  ldv ((Instr.loadAt 32 t2).run Tryd.prog w) w fun r0 =>
  R (.returned (.tuple #[r0, (.int .i64 0)])) w))
theorem F9.eq (R : Ending → World → Prop) (w : World) (a0 : Value) : F9 R w a0 = shF Tryd.prog 9 [0,2,3,4,5,6,7,8,9,17,21,40,46,51,77,86] [a0] R w := by kernel_rfl
theorem F9.calls {R : Ending → World → Prop} {w : World} {a0 : Value} (h : F9 R w a0) : Calls Tryd.prog 9 #[a0] w R := shF_sound (F9.eq R w a0 ▸ h)

/-- greenscreen/grammar.Buffer -/
def F10 (R : Ending → World → Prop) (w : World) (a0 : Value) : Prop :=
  callF Tryd.prog 26 #[a0, (.func (.func 27) #[] #[])] w R fun t10 w =>
  opv ((Instr.extract t10 0).run Tryd.prog w) R fun t11 w =>
  opv ((Instr.extract t10 1).run Tryd.prog w) R fun t12 w =>
  opv ((Instr.alloc 69 true (.tuple #[])).run Tryd.prog w) R fun t6 w =>
  opu ((Instr.storeAt 69 t6 t11).run Tryd.prog w) R fun _ w =>
  drawn w fun T w =>
  qop T w (fun w K => opv ((Instr.fieldAt 69 t6 0).run Tryd.prog w) noR K) fun t13 =>
  qop T w (fun w K => opv ((Instr.loadAt 5 t13).run Tryd.prog w) noR K) fun t14 =>
  qop T w (fun w K => opv ((Instr.fieldAt 69 t6 1).run Tryd.prog w) noR K) fun t15 =>
  qop T w (fun w K => opv ((Instr.loadAt 3 t15).run Tryd.prog w) noR K) fun t16 =>
  qop T w (fun w K => opv ((Instr.fieldAt 69 t6 2).run Tryd.prog w) noR K) fun t17 =>
  qop T w (fun w K => opv ((Instr.loadAt 35 t17).run Tryd.prog w) noR K) fun t18 =>
  ext w fun w =>
  R (.returned (.tuple #[t14, t16, t18, t12])) w
theorem F10.eq (R : Ending → World → Prop) (w : World) (a0 : Value) : F10 R w a0 = shF Tryd.prog 10 [0,2,3,4,5,6,7] [a0] R w := by kernel_rfl
theorem F10.calls {R : Ending → World → Prop} {w : World} {a0 : Value} (h : F10 R w a0) : Calls Tryd.prog 10 #[a0] w R := shF_sound (F10.eq R w a0 ▸ h)

/-- greenscreen/greenscreenref25.Buffer -/
def F11 (R : Ending → World → Prop) (w : World) (a0 : Value) : Prop :=
  opv ((Builtin.len_ #[22] 3 #[a0]).run Tryd.prog w) R fun t12 w =>
  opv ((binOp .lss 3 t12 (.int .i64 3)).run Tryd.prog w) R fun t13 w =>
  cond t13 (R (.returned (.tuple #[(.int .u8 0), (.int .i64 0), (.slice none 0 0), (.int .i64 20)])) w)
  (opv ((Instr.buildSlice 35 0 #[]).run Tryd.prog w) R fun t14 w =>
  join (upd (upd (upd (upd (upd (upd (upd (ini [a0]) 2 (.int .u8 0)) 3 (.int .i64 0)) 4 (.slice none 0 0)) 5 (.int .i64 0)) 13 t13) 6 t14) 7 (.int .i64 3)) (fun j1 =>
  loop (upd (upd (upd (upd (upd (upd (upd (ini [a0]) 2 (.int .u8 0)) 3 (.int .i64 0)) 4 (.slice none 0 0)) 5 (.int .i64 0)) 13 t13) 6 t14) 7 (.int .i64 3)) w fun e2 g2 w j2 =>
  opv ((Builtin.len_ #[22] 3 #[a0]).run Tryd.prog w) R fun t17 w =>
  opv ((binOp .lss 3 (g2 7) t17).run Tryd.prog w) R fun t18 w =>
  cond t18 (opv ((Instr.indexAt 22 a0 (g2 7)).run Tryd.prog w) R fun t21 w =>
  opv ((Instr.loadAt 5 t21).run Tryd.prog w) R fun t22 w =>
  opv ((binE true .eql 5 t22 (.int .u8 29)).run Tryd.prog w) R fun t23 w =>
  cond t23 (opv ((binOp .add 3 (g2 7) (.int .i64 1)).run Tryd.prog w) R fun t25 w =>
  opv ((Builtin.len_ #[22] 3 #[a0]).run Tryd.prog w) R fun t27 w =>
  opv ((binOp .geq 3 t25 t27).run Tryd.prog w) R fun t28 w =>
  cond t28 (R (.returned (.tuple #[(.int .u8 0), (.int .i64 0), (.slice none 0 0), (.int .i64 20)])) w)
  (opv ((binOp .add 3 (g2 7) (.int .i64 1)).run Tryd.prog w) R fun t32 w =>
  opv ((Instr.indexAt 22 a0 t32).run Tryd.prog w) R fun t33 w =>
  opv ((Instr.loadAt 5 t33).run Tryd.prog w) R fun t34 w =>
  opv ((binOp .rem 5 t34 (.int .u8 64)).run Tryd.prog w) R fun t35 w =>
  opv ((Instr.build 59 #[(0, t35), (2, (.bool true))]).run Tryd.prog w) R fun t36 w =>
  opv ((Instr.buildSlice 35 1 #[(0, t36)]).run Tryd.prog w) R fun t37 w =>
  opv ((Builtin.append_ #[35, 35] 35 #[(g2 6), t37]).run Tryd.prog w) R fun t38 w =>
  opv ((binOp .add 3 (g2 7) (.int .i64 2)).run Tryd.prog w) R fun t40 w =>
  j2 (upd (upd (upd (upd (upd (mix [18,23,28,8,9,10,49,2,3,4,5,6,7] g2 e2) 18 t18) 23 t23) 28 t28) 6 t38) 7 t40) w))
  (callF Tryd.prog 25 #[a0, (g2 7)] w R fun t44 w =>
  opv ((Instr.extract t44 0).run Tryd.prog w) R fun t45 w =>
  opv ((Instr.extract t44 1).run Tryd.prog w) R fun t46 w =>
  opv ((Instr.extract t44 2).run Tryd.prog w) R fun t47 w =>
  opv ((Instr.alloc 59 true (.tuple #[])).run Tryd.prog w) R fun t8 w =>
  opu ((Instr.storeAt 59 t8 t45).run Tryd.prog w) R fun _ w =>
  opv ((binE true .neq 3 t47 (.int .i64 0)).run Tryd.prog w) R fun t49 w =>
  cond t49 (R (.returned (.tuple #[(.int .u8 0), (.int .i64 0), (.slice none 0 0), t47])) w)
  (opv ((Instr.loadAt 59 t8).run Tryd.prog w) R fun t52 w =>
  opv ((Instr.buildSlice 35 1 #[(0, t52)]).run Tryd.prog w) R fun t53 w =>
  opv ((Builtin.append_ #[35, 35] 35 #[(g2 6), t53]).run Tryd.prog w) R fun t54 w =>
  opv ((binOp .add 3 (g2 7) t46).run Tryd.prog w) R fun t57 w =>
  j2 (upd (upd (upd (upd (upd (upd (upd (upd (mix [18,23,28,8,9,10,49,2,3,4,5,6,7] g2 e2) 18 t18) 23 t23) 8 t8) 9 t46) 10 t47) 49 t49) 6 t54) 7 t57) w)))
  (j1 (upd (mix [18,23,28,8,9,10,49,2,3,4,5,6,7] g2 e2) 18 t18) w)) fun e1 g1 w =>
  drawn w fun T w =>
  qop T w (fun w K => opv ((Instr.indexAt 22 a0 (.int .i64 0)).run Tryd.prog w) noR K) fun t59 =>
  qop T w (fun w K => opv ((Instr.loadAt 5 t59).run Tryd.prog w) noR K) fun t60 =>
  qop T w (fun w K => opv ((Instr.indexAt 22 a0 (.int .i64 1)).run Tryd.prog w) noR K) fun t62 =>
  qop T w (fun w K => opv ((Instr.loadAt 5 t62).run Tryd.prog w) noR K) fun t63 =>
  qop T w (fun w K => opv ((Instr.indexAt 22 a0 (.int .i64 2)).run Tryd.prog w) noR K) fun t65 =>
  qop T w (fun w K => opv ((Instr.loadAt 5 t65).run Tryd.prog w) noR K) fun t66 =>
  qop T w (fun w K => callF Tryd.prog 24 #[t63, t66] w noR K) fun t67 =>
  ext w fun w =>
  R (.returned (.tuple #[t60, t67, (g1 6), (.int .i64 0)])) w)
theorem F11.eq (R : Ending → World → Prop) (w : World) (a0 : Value) : F11 R w a0 = shF Tryd.prog 11 [0,2,3,4,5,6,7,8,9,10,13,18,23,28,49] [a0] R w := by kernel_rfl
theorem F11.calls {R : Ending → World → Prop} {w : World} {a0 : Value} (h : F11 R w a0) : Calls Tryd.prog 11 #[a0] w R := shF_sound (F11.eq R w a0 ▸ h)

/-- greenscreen/greenscreenref25.Same -/
def F12 (R : Ending → World → Prop) (w : World) (a0 a1 : Value) : Prop :=
  opv ((Instr.box 32 a0).run Tryd.prog w) R fun t2 w =>
  opv ((Instr.box 32 a1).run Tryd.prog w) R fun t3 w =>
  opv ((Instr.fieldAt 32 t2 0).run Tryd.prog w) R fun t6 w =>
  opv ((Instr.loadAt 5 t6).run Tryd.prog w) R fun t7 w =>
  opv ((Instr.fieldAt 32 t3 0).run Tryd.prog w) R fun t8 w =>
  opv ((Instr.loadAt 5 t8).run Tryd.prog w) R fun t9 w =>
  opv ((binE false .neq 5 t7 t9).run Tryd.prog w) R fun t10 w =>
  gd t10 false (fun K => opv ((Instr.fieldAt 32 t2 1).run Tryd.prog w) R K) w fun t12 w =>
  gd t10 false (fun K => opv ((Instr.loadAt 4 t12).run Tryd.prog w) R K) w fun t13 w =>
  gd t10 false (fun K => opv ((Instr.fieldAt 32 t3 1).run Tryd.prog w) R K) w fun t14 w =>
  gd t10 false (fun K => opv ((Instr.loadAt 4 t14).run Tryd.prog w) R K) w fun t15 w =>
  gd t10 false (fun K => opv ((binE false .neq 4 t13 t15).run Tryd.prog w) R K) w fun t16 w =>
  pick t10 (.bool true) t16 w fun t17 w =>
  gd t17 false (fun K => opv ((Instr.fieldAt 32 t2 2).run Tryd.prog w) R K) w fun t19 w =>
  gd t17 false (fun K => opv ((Instr.loadAt 3 t19).run Tryd.prog w) R K) w fun t20 w =>
  gd t17 false (fun K => opv ((Instr.fieldAt 32 t3 2).run Tryd.prog w) R K) w fun t21 w =>
  gd t17 false (fun K => opv ((Instr.loadAt 3 t21).run Tryd.prog w) R K) w fun t22 w =>
  gd t17 false (fun K => opv ((binE false .neq 3 t20 t22).run Tryd.prog w) R K) w fun t23 w =>
  pick t17 (.bool true) t23 w fun t24 w =>
  gd t24 false (fun K => opv ((Instr.fieldAt 32 t2 3).run Tryd.prog w) R K) w fun t26 w =>
  gd t24 false (fun K => opv ((Instr.loadAt 30 t26).run Tryd.prog w) R K) w fun t27 w =>
  gd t24 false (fun K => opv ((Builtin.len_ #[30] 3 #[t27]).run Tryd.prog w) R K) w fun t28 w =>
  gd t24 false (fun K => opv ((Instr.fieldAt 32 t3 3).run Tryd.prog w) R K) w fun t29 w =>
  gd t24 false (fun K => opv ((Instr.loadAt 30 t29).run Tryd.prog w) R K) w fun t30 w =>
  gd t24 false (fun K => opv ((Builtin.len_ #[30] 3 #[t30]).run Tryd.prog w) R K) w fun t31 w =>
  gd t24 false (fun K => opv ((binE false .neq 3 t28 t31).run Tryd.prog w) R K) w fun t32 w =>
  pick t24 (.bool true) t32 w fun t33 w =>
  cond t33 (R (.returned (.bool false)) w)
  (join (upd (upd (upd (upd (ini [a0, a1]) 2 t2) 3 t3) 4 (.bool false)) 33 t33) (fun j1 =>
  loop (upd (upd (upd (upd (upd (ini [a0, a1]) 2 t2) 3 t3) 4 (.bool false)) 33 t33) 5 (.int .i64 0)) w fun e2 g2 w j2 =>
  opv ((Instr.fieldAt 32 t2 3).run Tryd.prog w) R fun t35 w =>
  opv ((Instr.loadAt 30 t35).run Tryd.prog w) R fun t36 w =>
  opv ((Builtin.len_ #[30] 3 #[t36]).run Tryd.prog w) R fun t37 w =>
  opv ((binOp .lss 3 (g2 5) t37).run Tryd.prog w) R fun t38 w =>
  cond t38 (drawn w fun T w =>
  qop T w (fun w K => opv ((Instr.fieldAt 32 t2 3).run Tryd.prog w) noR K) fun t41 =>
  qop T w (fun w K => opv ((Instr.loadAt 30 t41).run Tryd.prog w) noR K) fun t42 =>
  qop T w (fun w K => opv ((Instr.indexAt 30 t42 (g2 5)).run Tryd.prog w) noR K) fun t44 =>
  qop T w (fun w K => opv ((Instr.fieldAt 65 t44 0).run Tryd.prog w) noR K) fun t45 =>
  qop T w (fun w K => opv ((Instr.loadAt 3 t45).run Tryd.prog w) noR K) fun t46 =>
  qop T w (fun w K => opv ((Instr.fieldAt 32 t3 3).run Tryd.prog w) noR K) fun t47 =>
  qop T w (fun w K => opv ((Instr.loadAt 30 t47).run Tryd.prog w) noR K) fun t48 =>
  qop T w (fun w K => opv ((Instr.indexAt 30 t48 (g2 5)).run Tryd.prog w) noR K) fun t50 =>
  qop T w (fun w K => opv ((Instr.fieldAt 65 t50 0).run Tryd.prog w) noR K) fun t51 =>
  qop T w (fun w K => opv ((Instr.loadAt 3 t51).run Tryd.prog w) noR K) fun t52 =>
  qop T w (fun w K => opv ((binE false .neq 3 t46 t52).run Tryd.prog w) noR K) fun t53 =>
  qop T w (fun w K => gd t53 false (fun K => opv ((Instr.fieldAt 32 t2 3).run Tryd.prog w) noR K) w K) fun t55 =>
  qop T w (fun w K => gd t53 false (fun K => opv ((Instr.loadAt 30 t55).run Tryd.prog w) noR K) w K) fun t56 =>
  qop T w (fun w K => gd t53 false (fun K => K (g2 5) w) w K) fun t57 =>
  qop T w (fun w K => gd t53 false (fun K => opv ((Instr.indexAt 30 t56 t57).run Tryd.prog w) noR K) w K) fun t58 =>
  qop T w (fun w K => gd t53 false (fun K => opv ((Instr.fieldAt 65 t58 1).run Tryd.prog w) noR K) w K) fun t59 =>
  qop T w (fun w K => gd t53 false (fun K => opv ((Instr.loadAt 35 t59).run Tryd.prog w) noR K) w K) fun t60 =>
  qop T w (fun w K => gd t53 false (fun K => opv ((Instr.fieldAt 32 t3 3).run Tryd.prog w) noR K) w K) fun t61 =>
  qop T w (fun w K => gd t53 false (fun K => opv ((Instr.loadAt 30 t61).run Tryd.prog w) noR K) w K) fun t62 =>
  qop T w (fun w K => gd t53 false (fun K => K (g2 5) w) w K) fun t63 =>
  qop T w (fun w K => gd t53 false (fun K => opv ((Instr.indexAt 30 t62 t63).run Tryd.prog w) noR K) w K) fun t64 =>
  qop T w (fun w K => gd t53 false (fun K => opv ((Instr.fieldAt 65 t64 1).run Tryd.prog w) noR K) w K) fun t65 =>
  qop T w (fun w K => gd t53 false (fun K => opv ((Instr.loadAt 35 t65).run Tryd.prog w) noR K) w K) fun t66 =>
  qop T w (fun w K => gd t53 false (fun K => callF Tryd.prog 16 #[t60, t66] w noR K) w K) fun t67 =>
  qop T w (fun w K => gd t53 false (fun K => opv ((Op.unary .not t67).run Tryd.prog w) noR K) w K) fun t68 =>
  qop T w (fun w K => pick t53 (.bool true) t68 w K) fun t69 =>
  ext w fun w =>
  cond t69 (R (.returned (.bool false)) w)
  (opv ((binOp .add 3 (g2 5) (.int .i64 1)).run Tryd.prog w) R fun t40 w =>
  j2 (upd (upd (upd (mix [38,69,4,5] g2 e2) 38 t38) 69 t69) 5 t40) w))
  (j1 (upd (mix [38,69,4,5] g2 e2) 38 t38) w)) fun e1 g1 w =>
  R (.returned (.bool true)) w)
theorem F12.eq (R : Ending → World → Prop) (w : World) (a0 a1 : Value) : F12 R w a0 a1 = shF Tryd.prog 12 [0,1,2,3,4,5,33,38,69] [a0, a1] R w := by kernel_rfl
theorem F12.calls {R : Ending → World → Prop} {w : World} {a0 a1 : Value} (h : F12 R w a0 a1) : Calls Tryd.prog 12 #[a0, a1] w R := shF_sound (F12.eq R w a0 a1 ▸ h)

/-- greenscreen/greenscreenlaw25.as -/
def F13 (R : Ending → World → Prop) (w : World) (a0 : Value) : Prop :=
  opv ((Instr.box 26 a0).run Tryd.prog w) R fun t1 w =>
  opv ((Instr.alloc 32 true (.tuple #[])).run Tryd.prog w) R fun t2 w =>
  opv ((Instr.fieldAt 26 t1 0).run Tryd.prog w) R fun t6 w =>
  opv ((Instr.loadAt 5 t6).run Tryd.prog w) R fun t7 w =>
  opv ((Instr.fieldAt 26 t1 1).run Tryd.prog w) R fun t8 w =>
  opv ((Instr.loadAt 4 t8).run Tryd.prog w) R fun t9 w =>
  opv ((Instr.fieldAt 26 t1 2).run Tryd.prog w) R fun t10 w =>
  opv ((Instr.loadAt 3 t10).run Tryd.prog w) R fun t11 w =>
  opv ((Instr.build 32 #[(0, t7), (1, t9), (2, t11)]).run Tryd.prog w) R fun t12 w =>
  opv ((Instr.alloc 32 true (.tuple #[])).run Tryd.prog w) R fun t3 w =>
  opu ((Instr.storeAt 32 t3 t12).run Tryd.prog w) R fun _ w =>
  join (upd (upd (upd (ini [a0]) 1 t1) 2 t2) 3 t3) (fun j1 =>
  opv ((Instr.fieldAt 26 t1 3).run Tryd.prog w) R fun t13 w =>
  opv ((Instr.loadAt 24 t13).run Tryd.prog w) R fun t14 w =>
  opv ((Builtin.len_ #[24] 3 #[t14]).run Tryd.prog w) R fun t15 w =>
  loop (upd (upd (upd (upd (upd (upd (ini [a0]) 1 t1) 2 t2) 3 t3) 14 t14) 15 t15) 16 (.int .i64 0)) w fun e2 g2 w j2 =>
  opv ((binOp .lss 3 (g2 16) t15).run Tryd.prog w) R fun t17 w =>
  cond t17 (opv ((Instr.indexAt 24 t14 (g2 16)).run Tryd.prog w) R fun t18 w =>
  opv ((Instr.loadAt 55 t18).run Tryd.prog w) R fun t19 w =>
  opv ((Instr.alloc 55 true (.tuple #[])).run Tryd.prog w) R fun t5 w =>
  opu ((Instr.storeAt 55 t5 t19).run Tryd.prog w) R fun _ w =>
  opv ((Instr.fieldAt 32 t3 3).run Tryd.prog w) R fun t20 w =>
  opv ((Instr.loadAt 30 t20).run Tryd.prog w) R fun t21 w =>
  opv ((Instr.fieldAt 55 t5 0).run Tryd.prog w) R fun t22 w =>
  opv ((Instr.loadAt 3 t22).run Tryd.prog w) R fun t23 w =>
  opv ((Instr.fieldAt 55 t5 1).run Tryd.prog w) R fun t24 w =>
  opv ((Instr.loadAt 35 t24).run Tryd.prog w) R fun t25 w =>
  opv ((Instr.build 65 #[(0, t23), (1, t25)]).run Tryd.prog w) R fun t26 w =>
  opv ((Instr.buildSlice 30 1 #[(0, t26)]).run Tryd.prog w) R fun t27 w =>
  opv ((Builtin.append_ #[30, 30] 30 #[t21, t27]).run Tryd.prog w) R fun t28 w =>
  opv ((Instr.fieldAt 32 t3 3).run Tryd.prog w) R fun t29 w =>
  opu ((Instr.storeAt 30 t29 t28).run Tryd.prog w) R fun _ w =>
  opv ((binOp .add 3 (g2 16) (.int .i64 1)).run Tryd.prog w) R fun t30 w =>
  j2 (upd (upd (upd (mix [17,5,16] g2 e2) 17 t17) 5 t5) 16 t30) w)
  (j1 (upd (mix [17,5,16] g2 e2) 17 t17) w)) fun e1 g1 w =>
  opv ((Instr.loadAt 32 t3).run Tryd.prog w) R fun t31 w =>
  opu ((Instr.storeAt 32 t2 t31).run Tryd.prog w) R fun _ w =>
  ldv ((Instr.loadAt 32 t2).run Tryd.prog w) w fun r0 =>
  R (.returned r0) w
theorem F13.eq (R : Ending → World → Prop) (w : World) (a0 : Value) : F13 R w a0 = shF Tryd.prog 13 [0,1,2,3,5,14,15,16,17] [a0] R w := by kernel_rfl
theorem F13.calls {R : Ending → World → Prop} {w : World} {a0 : Value} (h : F13 R w a0) : Calls Tryd.prog 13 #[a0] w R := shF_sound (F13.eq R w a0 ▸ h)

/-- greenscreen/grammar.Text -/
def F14 (R : Ending → World → Prop) (w : World) (a0 a1 : Value) : Prop :=
  opv ((Instr.box 26 a1).run Tryd.prog w) R fun t3 w =>
  opv ((Instr.fieldAt 26 t3 1).run Tryd.prog w) R fun t11 w =>
  opv ((Instr.loadAt 4 t11).run Tryd.prog w) R fun t12 w =>
  cond t12 (opv ((Instr.fieldAt 26 t3 0).run Tryd.prog w) R fun t13 w =>
  opv ((Instr.loadAt 5 t13).run Tryd.prog w) R fun t14 w =>
  callF Tryd.prog 28 #[t14] w R fun t15 w =>
  R (.returned t15) w)
  (opv ((Instr.alloc 77 true (.tuple #[])).run Tryd.prog w) R fun t5 w =>
  drawn w fun T w =>
  qop T w (fun w K => opv ((Instr.fieldAt 26 t3 0).run Tryd.prog w) noR K) fun t16 =>
  qop T w (fun w K => opv ((Instr.loadAt 5 t16).run Tryd.prog w) noR K) fun t17 =>
  qop T w (fun w K => callF Tryd.prog 28 #[t17] w noR K) fun t18 =>
  qop T w (fun w K => opv ((binOp .add 9 t18 (.string ⟨#[32, 64]⟩)).run Tryd.prog w) noR K) fun t19 =>
  qop T w (fun w K => opv ((Instr.fieldAt 26 t3 2).run Tryd.prog w) noR K) fun t20 =>
  qop T w (fun w K => opv ((Instr.loadAt 3 t20).run Tryd.prog w) noR K) fun t21 =>
  qop T w (fun w K => callF Tryd.prog 30 #[t21] w noR K) fun t22 =>
  qop T w (fun w K => opv ((binOp .add 9 t19 t22).run Tryd.prog w) noR K) fun t23 =>
  ext w fun w =>
  lop T w (fun w K => callF Tryd.prog 29 #[t5, t23] w R K) fun t24 w =>
  ext w fun w =>
  join (upd (upd (upd (upd (ini [a0, a1]) 3 t3) 4 (.string ⟨#[]⟩)) 12 t12) 5 t5) (fun j1 =>
  opv ((Instr.fieldAt 26 t3 3).run Tryd.prog w) R fun t25 w =>
  opv ((Instr.loadAt 24 t25).run Tryd.prog w) R fun t26 w =>
  opv ((Builtin.len_ #[24] 3 #[t26]).run Tryd.prog w) R fun t27 w =>
  loop (upd (upd (upd (upd (upd (upd (upd (ini [a0, a1]) 3 t3) 4 (.string ⟨#[]⟩)) 12 t12) 5 t5) 26 t26) 27 t27) 28 (.int .i64 0)) w fun e2 g2 w j2 =>
  opv ((binOp .lss 3 (g2 28) t27).run Tryd.prog w) R fun t29 w =>
  cond t29 (join (upd (mix [29,7,37,8,43,44,46,10,45,28] g2 e2) 29 t29) (fun j3 =>
  opv ((Instr.indexAt 24 t26 (g2 28)).run Tryd.prog w) R fun t30 w =>
  opv ((Instr.loadAt 55 t30).run Tryd.prog w) R fun t31 w =>
  opv ((Instr.alloc 55 true (.tuple #[])).run Tryd.prog w) R fun t7 w =>
  opu ((Instr.storeAt 55 t7 t31).run Tryd.prog w) R fun _ w =>
  opv ((Instr.fieldAt 55 t7 0).run Tryd.prog w) R fun t32 w =>
  opv ((Instr.loadAt 3 t32).run Tryd.prog w) R fun t33 w =>
  callF Tryd.prog 30 #[t33] w R fun t34 w =>
  join (upd (upd (upd (mix [29,7,37,8,43,44,46,10,45,28] g2 e2) 29 t29) 7 t7) 8 t34) (fun j4 =>
  opv ((Instr.fieldAt 55 t7 0).run Tryd.prog w) R fun t35 w =>
  opv ((Instr.loadAt 3 t35).run Tryd.prog w) R fun t36 w =>
  opv ((binE true .eql 3 t36 (.int .i64 (-1))).run Tryd.prog w) R fun t37 w =>
  cond t37 (j4 (upd (upd (upd (upd (upd (mix [29,7,37,8,43,44,46,10,45,28] g2 e2) 29 t29) 7 t7) 8 t34) 37 t37) 8 (.string ⟨#[42]⟩)) w)
  (j4 (upd (upd (upd (upd (mix [29,7,37,8,43,44,46,10,45,28] g2 e2) 29 t29) 7 t7) 8 t34) 37 t37) w)) fun e4 g4 w =>
  opv ((binOp .add 9 (.string ⟨#[32]⟩) (g4 8)).run Tryd.prog w) R fun t39 w =>
  opv ((binOp .add 9 t39 (.string ⟨#[61]⟩)).run Tryd.prog w) R fun t40 w =>
  callF Tryd.prog 29 #[t5, t40] w R fun t41 w =>
  opv ((Instr.fieldAt 55 t7 1).run Tryd.prog w) R fun t42 w =>
  opv ((Instr.loadAt 35 t42).run Tryd.prog w) R fun t43 w =>
  opv ((Builtin.len_ #[35] 3 #[t43]).run Tryd.prog w) R fun t44 w =>
  loop (upd (upd (upd (mix [37,8] g4 e4) 43 t43) 44 t44) 45 (.int .i64 0)) w fun e5 g5 w j5 =>
  opv ((binOp .lss 3 (g5 45) t44).run Tryd.prog w) R fun t46 w =>
  cond t46 (opv ((Instr.indexAt 35 t43 (g5 45)).run Tryd.prog w) R fun t47 w =>
  opv ((Instr.loadAt 59 t47).run Tryd.prog w) R fun t48 w =>
  opv ((Instr.alloc 59 true (.tuple #[])).run Tryd.prog w) R fun t10 w =>
  opu ((Instr.storeAt 59 t10 t48).run Tryd.prog w) R fun _ w =>
  opv ((Instr.loadAt 59 t10).run Tryd.prog w) R fun t50 w =>
  callF Tryd.prog 31 #[a0, t50] w R fun t51 w =>
  callF Tryd.prog 29 #[t5, t51] w R fun t52 w =>
  opv ((binOp .add 3 (g5 45) (.int .i64 1)).run Tryd.prog w) R fun t53 w =>
  j5 (upd (upd (upd (mix [46,10,45] g5 e5) 46 t46) 10 t10) 45 t53) w)
  (j3 (upd (mix [46,10,45] g5 e5) 46 t46) w)) fun e3 g3 w =>
  opv ((binOp .add 3 (g2 28) (.int .i64 1)).run Tryd.prog w) R fun t54 w =>
  j2 (upd (mix [7,37,8,43,44,46,10,45] g3 e3) 28 t54) w)
  (j1 (upd (mix [29,7,37,8,43,44,46,10,45,28] g2 e2) 29 t29) w)) fun e1 g1 w =>
  callF Tryd.prog 32 #[t5] w R fun t55 w =>
  R (.returned t55) w)
theorem F14.eq (R : Ending → World → Prop) (w : World) (a0 a1 : Value) : F14 R w a0 a1 = shF Tryd.prog 14 [0,1,3,4,5,7,8,10,12,26,27,28,29,37,43,44,45,46] [a0, a1] R w := by kernel_rfl
theorem F14.calls {R : Ending → World → Prop} {w : World} {a0 a1 : Value} (h : F14 R w a0 a1) : Calls Tryd.prog 14 #[a0, a1] w R := shF_sound (F14.eq R w a0 a1 ▸ h)

/-- greenscreen/greenscreenref25.Text -/
def F15 (R : Ending → World → Prop) (w : World) (a0 a1 : Value) : Prop :=
  opv ((Instr.box 32 a1).run Tryd.prog w) R fun t3 w =>
  opv ((Instr.fieldAt 32 t3 0).run Tryd.prog w) R fun t12 w =>
  opv ((Instr.loadAt 5 t12).run Tryd.prog w) R fun t13 w =>
  callF Tryd.prog 33 #[t13] w R fun t14 w =>
  join (upd (upd (upd (ini [a0, a1]) 3 t3) 4 (.string ⟨#[]⟩)) 5 t14) (fun j1 =>
  opv ((binE true .eql 9 t14 (.string ⟨#[]⟩)).run Tryd.prog w) R fun t16 w =>
  cond t16 (drawn w fun T w =>
  qop T w (fun w K => opv ((Instr.fieldAt 32 t3 0).run Tryd.prog w) noR K) fun t17 =>
  qop T w (fun w K => opv ((Instr.loadAt 5 t17).run Tryd.prog w) noR K) fun t18 =>
  qop T w (fun w K => opv ((binOp .quo 5 t18 (.int .u8 16)).run Tryd.prog w) noR K) fun t19 =>
  qop T w (fun w K => opv ((Instr.fieldAt 32 t3 0).run Tryd.prog w) noR K) fun t20 =>
  qop T w (fun w K => opv ((Instr.loadAt 5 t20).run Tryd.prog w) noR K) fun t21 =>
  qop T w (fun w K => opv ((binOp .rem 5 t21 (.int .u8 16)).run Tryd.prog w) noR K) fun t22 =>
  ext w fun w =>
  drawn w fun T w =>
  qop T w (fun w K => opv ((binOp .add 5 t19 (.int .u8 1)).run Tryd.prog w) noR K) fun t26 =>
  qop T w (fun w K => opv ((Instr.sliceAt 9 (.string ⟨#[48, 49, 50, 51, 52, 53, 54, 55, 56, 57, 65, 66, 67, 68, 69, 70]⟩) (some t19) (some t26) none).run Tryd.prog w) noR K) fun t27 =>
  qop T w (fun w K => opv ((binOp .add 5 t22 (.int .u8 1)).run Tryd.prog w) noR K) fun t31 =>
  qop T w (fun w K => opv ((Instr.sliceAt 9 (.string ⟨#[48, 49, 50, 51, 52, 53, 54, 55, 56, 57, 65, 66, 67, 68, 69, 70]⟩) (some t22) (some t31) none).run Tryd.prog w) noR K) fun t32 =>
  qop T w (fun w K => opv ((binOp .add 9 t27 t32).run Tryd.prog w) noR K) fun t33 =>
  ext w fun w =>
  j1 (upd (upd (upd (upd (upd (upd (upd (upd (ini [a0, a1]) 3 t3) 4 (.string ⟨#[]⟩)) 5 t14) 16 t16) 6 (.string ⟨#[48, 49, 50, 51, 52, 53, 54, 55, 56, 57, 65, 66, 67, 68, 69, 70]⟩)) 7 t19) 8 t22) 5 t33) w)
  (j1 (upd (upd (upd (upd (ini [a0, a1]) 3 t3) 4 (.string ⟨#[]⟩)) 5 t14) 16 t16) w)) fun e1 g1 w =>
  opv ((Instr.fieldAt 32 t3 1).run Tryd.prog w) R fun t34 w =>
  opv ((Instr.loadAt 4 t34).run Tryd.prog w) R fun t35 w =>
  cond t35 (R (.returned (g1 5)) w)
  (opv ((binOp .add 9 (g1 5) (.string ⟨#[32, 64]⟩)).run Tryd.prog w) R fun t38 w =>
  opv ((Instr.fieldAt 32 t3 2).run Tryd.prog w) R fun t39 w =>
  opv ((Instr.loadAt 3 t39).run Tryd.prog w) R fun t40 w =>
  callF Tryd.prog 30 #[t40] w R fun t41 w =>
  opv ((binOp .add 9 t38 t41).run Tryd.prog w) R fun t42 w =>
  join (upd (upd (mix [16,6,7,8,5] g1 e1) 35 t35) 5 t42) (fun j2 =>
  loop (upd (upd (upd (mix [16,6,7,8,5] g1 e1) 35 t35) 5 t42) 9 (.int .i64 0)) w fun e3 g3 w j3 =>
  opv ((Instr.fieldAt 32 t3 3).run Tryd.prog w) R fun t44 w =>
  opv ((Instr.loadAt 30 t44).run Tryd.prog w) R fun t45 w =>
  opv ((Builtin.len_ #[30] 3 #[t45]).run Tryd.prog w) R fun t46 w =>
  opv ((binOp .lss 3 (g3 9) t46).run Tryd.prog w) R fun t47 w =>
  cond t47 (join (upd (mix [47,10,57,71,5,11,9] g3 e3) 47 t47) (fun j4 =>
  opv ((Instr.fieldAt 32 t3 3).run Tryd.prog w) R fun t50 w =>
  opv ((Instr.loadAt 30 t50).run Tryd.prog w) R fun t51 w =>
  opv ((Instr.indexAt 30 t51 (g3 9)).run Tryd.prog w) R fun t53 w =>
  opv ((Instr.loadAt 65 t53).run Tryd.prog w) R fun t54 w =>
  opv ((Instr.alloc 65 true (.tuple #[])).run Tryd.prog w) R fun t10 w =>
  opu ((Instr.storeAt 65 t10 t54).run Tryd.prog w) R fun _ w =>
  join (upd (upd (mix [47,10,57,71,5,11,9] g3 e3) 47 t47) 10 t10) (fun j5 =>
  opv ((Instr.fieldAt 65 t10 0).run Tryd.prog w) R fun t55 w =>
  opv ((Instr.loadAt 3 t55).run Tryd.prog w) R fun t56 w =>
  opv ((binE true .eql 3 t56 (.int .i64 (-1))).run Tryd.prog w) R fun t57 w =>
  cond t57 (opv ((binOp .add 9 (g3 5) (.string ⟨#[32, 42, 61]⟩)).run Tryd.prog w) R fun t59 w =>
  j5 (upd (upd (upd (upd (mix [47,10,57,71,5,11,9] g3 e3) 47 t47) 10 t10) 57 t57) 5 t59) w)
  (opv ((binOp .add 9 (g3 5) (.string ⟨#[32]⟩)).run Tryd.prog w) R fun t61 w =>
  opv ((Instr.fieldAt 65 t10 0).run Tryd.prog w) R fun t62 w =>
  opv ((Instr.loadAt 3 t62).run Tryd.prog w) R fun t63 w =>
  callF Tryd.prog 30 #[t63] w R fun t64 w =>
  opv ((binOp .add 9 t61 t64).run Tryd.prog w) R fun t65 w =>
  opv ((binOp .add 9 t65 (.string ⟨#[61]⟩)).run Tryd.prog w) R fun t66 w =>
  j5 (upd (upd (upd (upd (mix [47,10,57,71,5,11,9] g3 e3) 47 t47) 10 t10) 57 t57) 5 t66) w)) fun e5 g5 w =>
  loop (upd (mix [57,5] g5 e5) 11 (.int .i64 0)) w fun e6 g6 w j6 =>
  opv ((Instr.fieldAt 65 t10 1).run Tryd.prog w) R fun t68 w =>
  opv ((Instr.loadAt 35 t68).run Tryd.prog w) R fun t69 w =>
  opv ((Builtin.len_ #[35] 3 #[t69]).run Tryd.prog w) R fun t70 w =>
  opv ((binOp .lss 3 (g6 11) t70).run Tryd.prog w) R fun t71 w =>
  cond t71 (opv ((Instr.fieldAt 65 t10 1).run Tryd.prog w) R fun t76 w =>
  opv ((Instr.loadAt 35 t76).run Tryd.prog w) R fun t77 w =>
  opv ((Instr.indexAt 35 t77 (g6 11)).run Tryd.prog w) R fun t79 w =>
  opv ((Instr.loadAt 59 t79).run Tryd.prog w) R fun t80 w =>
  callF Tryd.prog 34 #[a0, t80] w R fun t81 w =>
  opv ((binOp .add 9 (g6 5) t81).run Tryd.prog w) R fun t82 w =>
  opv ((binOp .add 3 (g6 11) (.int .i64 1)).run Tryd.prog w) R fun t73 w =>
  j6 (upd (upd (upd (mix [71,5,11] g6 e6) 71 t71) 5 t82) 11 t73) w)
  (j4 (upd (mix [71,5,11] g6 e6) 71 t71) w)) fun e4 g4 w =>
  opv ((binOp .add 3 (g3 9) (.int .i64 1)).run Tryd.prog w) R fun t49 w =>
  j3 (upd (mix [10,57,71,5,11] g4 e4) 9 t49) w)
  (j2 (upd (mix [47,10,57,71,5,11,9] g3 e3) 47 t47) w)) fun e2 g2 w =>
  R (.returned (g2 5)) w)
theorem F15.eq (R : Ending → World → Prop) (w : World) (a0 a1 : Value) : F15 R w a0 a1 = shF Tryd.prog 15 [0,1,3,4,5,6,7,8,9,10,11,16,35,47,57,71] [a0, a1] R w := by kernel_rfl
theorem F15.calls {R : Ending → World → Prop} {w : World} {a0 a1 : Value} (h : F15 R w a0 a1) : Calls Tryd.prog 15 #[a0, a1] w R := shF_sound (F15.eq R w a0 a1 ▸ h)

/-- greenscreen/greenscreenref14.Same -/
def F16 (R : Ending → World → Prop) (w : World) (a0 a1 : Value) : Prop :=
  opv ((Builtin.len_ #[35] 3 #[a0]).run Tryd.prog w) R fun t7 w =>
  opv ((Builtin.len_ #[35] 3 #[a1]).run Tryd.prog w) R fun t9 w =>
  opv ((binE false .neq 3 t7 t9).run Tryd.prog w) R fun t10 w =>
  cond t10 (R (.returned (.bool false)) w)
  (join (upd (upd (ini [a0, a1]) 4 (.bool false)) 10 t10) (fun j1 =>
  loop (upd (upd (upd (ini [a0, a1]) 4 (.bool false)) 10 t10) 5 (.int .i64 0)) w fun e2 g2 w j2 =>
  opv ((Builtin.len_ #[35] 3 #[a0]).run Tryd.prog w) R fun t13 w =>
  opv ((binOp .lss 3 (g2 5) t13).run Tryd.prog w) R fun t14 w =>
  cond t14 (drawn w fun T w =>
  qop T w (fun w K => opv ((Instr.indexAt 35 a0 (g2 5)).run Tryd.prog w) noR K) fun t19 =>
  qop T w (fun w K => opv ((Instr.loadAt 59 t19).run Tryd.prog w) noR K) fun t20 =>
  qop T w (fun w K => opv ((Instr.indexAt 35 a1 (g2 5)).run Tryd.prog w) noR K) fun t23 =>
  qop T w (fun w K => opv ((Instr.loadAt 59 t23).run Tryd.prog w) noR K) fun t24 =>
  qop T w (fun w K => opv ((binE false .neq 59 t20 t24).run Tryd.prog w) noR K) fun t25 =>
  ext w fun w =>
  cond t25 (R (.returned (.bool false)) w)
  (opv ((binOp .add 3 (g2 5) (.int .i64 1)).run Tryd.prog w) R fun t16 w =>
  j2 (upd (upd (upd (mix [14,25,4,5] g2 e2) 14 t14) 25 t25) 5 t16) w))
  (j1 (upd (mix [14,25,4,5] g2 e2) 14 t14) w)) fun e1 g1 w =>
  R (.returned (.bool true)) w)
theorem F16.eq (R : Ending → World → Prop) (w : World) (a0 a1 : Value) : F16 R w a0 a1 = shF Tryd.prog 16 [0,1,4,5,10,14,25] [a0, a1] R w := by kernel_rfl
theorem F16.calls {R : Ending → World → Prop} {w : World} {a0 a1 : Value} (h : F16 R w a0 a1) : Calls Tryd.prog 16 #[a0, a1] w R := shF_sound (F16.eq R w a0 a1 ▸ h)

/-- greenscreen/greenscreenlaw25.few -/
def F17 (R : Ending → World → Prop) (w : World) (a0 : Value) : Prop :=
  opv ((Instr.box 26 a0).run Tryd.prog w) R fun t1 w =>
  join (upd (upd (ini [a0]) 1 t1) 2 (.bool false)) (fun j1 =>
  opv ((Instr.fieldAt 26 t1 3).run Tryd.prog w) R fun t5 w =>
  opv ((Instr.loadAt 24 t5).run Tryd.prog w) R fun t6 w =>
  opv ((Builtin.len_ #[24] 3 #[t6]).run Tryd.prog w) R fun t7 w =>
  loop (upd (upd (upd (upd (upd (ini [a0]) 1 t1) 2 (.bool false)) 6 t6) 7 t7) 8 (.int .i64 0)) w fun e2 g2 w j2 =>
  opv ((binOp .lss 3 (g2 8) t7).run Tryd.prog w) R fun t9 w =>
  cond t9 (opv ((Instr.indexAt 24 t6 (g2 8)).run Tryd.prog w) R fun t10 w =>
  opv ((Instr.loadAt 55 t10).run Tryd.prog w) R fun t11 w =>
  opv ((Instr.alloc 55 true (.tuple #[])).run Tryd.prog w) R fun t4 w =>
  opu ((Instr.storeAt 55 t4 t11).run Tryd.prog w) R fun _ w =>
  opv ((Instr.fieldAt 55 t4 1).run Tryd.prog w) R fun t12 w =>
  opv ((Instr.loadAt 35 t12).run Tryd.prog w) R fun t13 w =>
  opv ((Builtin.len_ #[35] 3 #[t13]).run Tryd.prog w) R fun t14 w =>
  opv ((binOp .gtr 3 t14 (.int .i64 60)).run Tryd.prog w) R fun t15 w =>
  cond t15 (R (.returned (.bool false)) w)
  (opv ((binOp .add 3 (g2 8) (.int .i64 1)).run Tryd.prog w) R fun t16 w =>
  j2 (upd (upd (upd (upd (mix [9,4,15,2,8] g2 e2) 9 t9) 4 t4) 15 t15) 8 t16) w))
  (j1 (upd (mix [9,4,15,2,8] g2 e2) 9 t9) w)) fun e1 g1 w =>
  opv ((Instr.fieldAt 26 t1 3).run Tryd.prog w) R fun t17 w =>
  opv ((Instr.loadAt 24 t17).run Tryd.prog w) R fun t18 w =>
  opv ((Builtin.len_ #[24] 3 #[t18]).run Tryd.prog w) R fun t19 w =>
  opv ((binOp .leq 3 t19 (.int .i64 20)).run Tryd.prog w) R fun t20 w =>
  R (.returned t20) w
theorem F17.eq (R : Ending → World → Prop) (w : World) (a0 : Value) : F17 R w a0 = shF Tryd.prog 17 [0,1,2,4,6,7,8,9,15] [a0] R w := by kernel_rfl
theorem F17.calls {R : Ending → World → Prop} {w : World} {a0 : Value} (h : F17 R w a0) : Calls Tryd.prog 17 #[a0] w R := shF_sound (F17.eq R w a0 ▸ h)

/-- greenscreen/grammar.Write -/
def F18 (R : Ending → World → Prop) (w : World) (a0 a1 : Value) : Prop :=
  opv ((Instr.box 26 a0).run Tryd.prog w) R fun t2 w =>
  opv ((Instr.fieldAt 26 t2 1).run Tryd.prog w) R fun t13 w =>
  opv ((Instr.loadAt 4 t13).run Tryd.prog w) R fun t14 w =>
  cond t14 (opv ((Instr.fieldAt 26 t2 0).run Tryd.prog w) R fun t15 w =>
  opv ((Instr.loadAt 5 t15).run Tryd.prog w) R fun t16 w =>
  opv ((Instr.buildSlice 22 1 #[(0, t16)]).run Tryd.prog w) R fun t17 w =>
  R (.returned (.tuple #[t17, (.int .i64 0)])) w)
  (opv ((Instr.fieldAt 26 t2 2).run Tryd.prog w) R fun t19 w =>
  opv ((Instr.loadAt 3 t19).run Tryd.prog w) R fun t20 w =>
  callF Tryd.prog 35 #[t20, a1] w R fun t22 w =>
  opv ((Instr.extract t22 0).run Tryd.prog w) R fun t23 w =>
  opv ((Instr.extract t22 1).run Tryd.prog w) R fun t24 w =>
  opv ((Instr.alloc 85 true (.tuple #[])).run Tryd.prog w) R fun t6 w =>
  opu ((Instr.storeAt 85 t6 t23).run Tryd.prog w) R fun _ w =>
  opv ((binE true .neq 27 t24 (.int .i64 0)).run Tryd.prog w) R fun t26 w =>
  cond t26 (R (.returned (.tuple #[(.slice none 0 0), (.int .i64 32)])) w)
  (opv ((Instr.fieldAt 26 t2 0).run Tryd.prog w) R fun t27 w =>
  opv ((Instr.loadAt 5 t27).run Tryd.prog w) R fun t28 w =>
  opv ((Instr.indexAt 85 t6 (.int .i64 0)).run Tryd.prog w) R fun t29 w =>
  opv ((Instr.loadAt 5 t29).run Tryd.prog w) R fun t30 w =>
  opv ((Instr.indexAt 85 t6 (.int .i64 1)).run Tryd.prog w) R fun t31 w =>
  opv ((Instr.loadAt 5 t31).run Tryd.prog w) R fun t32 w =>
  opv ((Instr.buildSlice 22 3 #[(0, t28), (1, t30), (2, t32)]).run Tryd.prog w) R fun t33 w =>
  join (upd (upd (upd (upd (upd (upd (upd (upd (ini [a0, a1]) 2 t2) 4 (.slice none 0 0)) 5 (.int .i64 0)) 14 t14) 6 t6) 7 t24) 26 t26) 8 t33) (fun j1 =>
  opv ((Instr.fieldAt 26 t2 3).run Tryd.prog w) R fun t34 w =>
  opv ((Instr.loadAt 24 t34).run Tryd.prog w) R fun t35 w =>
  opv ((Builtin.len_ #[24] 3 #[t35]).run Tryd.prog w) R fun t36 w =>
  loop (upd (upd (upd (upd (upd (upd (upd (upd (upd (upd (upd (ini [a0, a1]) 2 t2) 4 (.slice none 0 0)) 5 (.int .i64 0)) 14 t14) 6 t6) 7 t24) 26 t26) 8 t33) 35 t35) 36 t36) 37 (.int .i64 0)) w fun e2 g2 w j2 =>
  opv ((binOp .lss 3 (g2 37) t36).run Tryd.prog w) R fun t38 w =>
  cond t38 (opv ((Instr.indexAt 24 t35 (g2 37)).run Tryd.prog w) R fun t40 w =>
  opv ((Instr.loadAt 55 t40).run Tryd.prog w) R fun t41 w =>
  opv ((Instr.alloc 55 true (.tuple #[])).run Tryd.prog w) R fun t10 w =>
  opu ((Instr.storeAt 55 t10 t41).run Tryd.prog w) R fun _ w =>
  opv ((Instr.loadAt 55 t10).run Tryd.prog w) R fun t43 w =>
  opv ((binE true .eql 3 (g2 37) (.int .i64 0)).run Tryd.prog w) R fun t45 w =>
  callF Tryd.prog 36 #[t43, t45, a1] w R fun t47 w =>
  opv ((Instr.extract t47 0).run Tryd.prog w) R fun t48 w =>
  opv ((Instr.extract t47 1).run Tryd.prog w) R fun t49 w =>
  opv ((binE true .neq 27 t49 (.int .i64 0)).run Tryd.prog w) R fun t51 w =>
  cond t51 (R (.returned (.tuple #[(.slice none 0 0), t49])) w)
  (opv ((Builtin.append_ #[22, 22] 22 #[(g2 8), t48]).run Tryd.prog w) R fun t55 w =>
  opv ((binOp .add 3 (g2 37) (.int .i64 1)).run Tryd.prog w) R fun t56 w =>
  j2 (upd (upd (upd (upd (upd (upd (upd (upd (mix [38,10,9,11,12,51,4,5,8,37] g2 e2) 38 t38) 10 t10) 9 (g2 37)) 11 t48) 12 t49) 51 t51) 8 t55) 37 t56) w))
  (j1 (upd (mix [38,10,9,11,12,51,4,5,8,37] g2 e2) 38 t38) w)) fun e1 g1 w =>
  R (.returned (.tuple #[(g1 8), (.int .i64 0)])) w))
theorem F18.eq (R : Ending → World → Prop) (w : World) (a0 a1 : Value) : F18 R w a0 a1 = shF Tryd.prog 18 [0,1,2,4,5,6,7,8,9,10,11,12,14,26,35,36,37,38,51] [a0, a1] R w := by kernel_rfl
theorem F18.calls {R : Ending → World → Prop} {w : World} {a0 a1 : Value} (h : F18 R w a0 a1) : Calls Tryd.prog 18 #[a0, a1] w R := shF_sound (F18.eq R w a0 a1 ▸ h)

/-- greenscreen/greenscreenref25.Write -/
def F19 (R : Ending → World → Prop) (w : World) (a0 a1 : Value) : Prop :=
  opv ((Instr.box 32 a0).run Tryd.prog w) R fun t2 w =>
  opv ((Instr.fieldAt 32 t2 1).run Tryd.prog w) R fun t15 w =>
  opv ((Instr.loadAt 4 t15).run Tryd.prog w) R fun t16 w =>
  cond t16 (opv ((Instr.fieldAt 32 t2 0).run Tryd.prog w) R fun t17 w =>
  opv ((Instr.loadAt 5 t17).run Tryd.prog w) R fun t18 w =>
  opv ((Instr.buildSlice 22 1 #[(0, t18)]).run Tryd.prog w) R fun t19 w =>
  R (.returned (.tuple #[t19, (.int .i64 0)])) w)
  (opv ((Instr.fieldAt 32 t2 2).run Tryd.prog w) R fun t21 w =>
  opv ((Instr.loadAt 3 t21).run Tryd.prog w) R fun t22 w =>
  callF Tryd.prog 37 #[t22, a1] w R fun t24 w =>
  opv ((Instr.extract t24 0).run Tryd.prog w) R fun t25 w =>
  opv ((Instr.extract t24 1).run Tryd.prog w) R fun t26 w =>
  opv ((Instr.alloc 85 true (.tuple #[])).run Tryd.prog w) R fun t6 w =>
  opu ((Instr.storeAt 85 t6 t25).run Tryd.prog w) R fun _ w =>
  opv ((binE true .neq 3 t26 (.int .i64 0)).run Tryd.prog w) R fun t28 w =>
  cond t28 (R (.returned (.tuple #[(.slice none 0 0), (.int .i64 32)])) w)
  (opv ((Instr.fieldAt 32 t2 0).run Tryd.prog w) R fun t29 w =>
  opv ((Instr.loadAt 5 t29).run Tryd.prog w) R fun t30 w =>
  opv ((Instr.indexAt 85 t6 (.int .i64 0)).run Tryd.prog w) R fun t31 w =>
  opv ((Instr.loadAt 5 t31).run Tryd.prog w) R fun t32 w =>
  opv ((Instr.indexAt 85 t6 (.int .i64 1)).run Tryd.prog w) R fun t33 w =>
  opv ((Instr.loadAt 5 t33).run Tryd.prog w) R fun t34 w =>
  opv ((Instr.buildSlice 22 3 #[(0, t30), (1, t32), (2, t34)]).run Tryd.prog w) R fun t35 w =>
  join (upd (upd (upd (upd (upd (upd (upd (upd (ini [a0, a1]) 2 t2) 4 (.slice none 0 0)) 5 (.int .i64 0)) 16 t16) 6 t6) 7 t26) 28 t28) 8 t35) (fun j1 =>
  loop (upd (upd (upd (upd (upd (upd (upd (upd (upd (ini [a0, a1]) 2 t2) 4 (.slice none 0 0)) 5 (.int .i64 0)) 16 t16) 6 t6) 7 t26) 28 t28) 8 t35) 9 (.int .i64 0)) w fun e2 g2 w j2 =>
  opv ((Instr.fieldAt 32 t2 3).run Tryd.prog w) R fun t37 w =>
  opv ((Instr.loadAt 30 t37).run Tryd.prog w) R fun t38 w =>
  opv ((Builtin.len_ #[30] 3 #[t38]).run Tryd.prog w) R fun t39 w =>
  opv ((binOp .lss 3 (g2 9) t39).run Tryd.prog w) R fun t40 w =>
  cond t40 (join (upd (mix [40,10,54,11,12,63,75,14,114,4,5,116,8,13,9] g2 e2) 40 t40) (fun j3 =>
  opv ((Instr.fieldAt 32 t2 3).run Tryd.prog w) R fun t43 w =>
  opv ((Instr.loadAt 30 t43).run Tryd.prog w) R fun t44 w =>
  opv ((Instr.indexAt 30 t44 (g2 9)).run Tryd.prog w) R fun t46 w =>
  opv ((Instr.loadAt 65 t46).run Tryd.prog w) R fun t47 w =>
  opv ((Instr.alloc 65 true (.tuple #[])).run Tryd.prog w) R fun t10 w =>
  opu ((Instr.storeAt 65 t10 t47).run Tryd.prog w) R fun _ w =>
  join (upd (upd (mix [40,10,54,11,12,63,75,14,114,4,5,116,8,13,9] g2 e2) 40 t40) 10 t10) (fun j4 =>
  opv ((Instr.fieldAt 65 t10 0).run Tryd.prog w) R fun t48 w =>
  opv ((Instr.loadAt 3 t48).run Tryd.prog w) R fun t49 w =>
  opv ((binE true .neq 3 t49 (.int .i64 (-1))).run Tryd.prog w) R fun t50 w =>
  gd t50 false (fun K => K (g2 9) w) w fun t52 w =>
  gd t50 false (fun K => opv ((binOp .gtr 3 t52 (.int .i64 0)).run Tryd.prog w) R K) w fun t53 w =>
  pick t50 (.bool true) t53 w fun t54 w =>
  cond t54 (opv ((Instr.fieldAt 65 t10 0).run Tryd.prog w) R fun t56 w =>
  opv ((Instr.loadAt 3 t56).run Tryd.prog w) R fun t57 w =>
  callF Tryd.prog 37 #[t57, a1] w R fun t59 w =>
  opv ((Instr.extract t59 0).run Tryd.prog w) R fun t60 w =>
  opv ((Instr.extract t59 1).run Tryd.prog w) R fun t61 w =>
  opv ((Instr.alloc 85 true (.tuple #[])).run Tryd.prog w) R fun t11 w =>
  opu ((Instr.storeAt 85 t11 t60).run Tryd.prog w) R fun _ w =>
  opv ((binE true .neq 3 t61 (.int .i64 0)).run Tryd.prog w) R fun t63 w =>
  cond t63 (R (.returned (.tuple #[(.slice none 0 0), (.int .i64 32)])) w)
  (opv ((Instr.indexAt 85 t11 (.int .i64 0)).run Tryd.prog w) R fun t65 w =>
  opv ((Instr.loadAt 5 t65).run Tryd.prog w) R fun t66 w =>
  opv ((Instr.indexAt 85 t11 (.int .i64 1)).run Tryd.prog w) R fun t67 w =>
  opv ((Instr.loadAt 5 t67).run Tryd.prog w) R fun t68 w =>
  opv ((Instr.buildSlice 22 3 #[(0, (.int .u8 17)), (1, t66), (2, t68)]).run Tryd.prog w) R fun t69 w =>
  opv ((Builtin.append_ #[22, 22] 22 #[(g2 8), t69]).run Tryd.prog w) R fun t70 w =>
  j4 (upd (upd (upd (upd (upd (upd (upd (mix [40,10,54,11,12,63,75,14,114,4,5,116,8,13,9] g2 e2) 40 t40) 10 t10) 54 t54) 11 t11) 12 t61) 63 t63) 8 t70) w))
  (j4 (upd (upd (upd (mix [40,10,54,11,12,63,75,14,114,4,5,116,8,13,9] g2 e2) 40 t40) 10 t10) 54 t54) w)) fun e4 g4 w =>
  loop (upd (mix [54,11,12,63,4,5,8] g4 e4) 13 (.int .i64 0)) w fun e5 g5 w j5 =>
  opv ((Instr.fieldAt 65 t10 1).run Tryd.prog w) R fun t72 w =>
  opv ((Instr.loadAt 35 t72).run Tryd.prog w) R fun t73 w =>
  opv ((Builtin.len_ #[35] 3 #[t73]).run Tryd.prog w) R fun t74 w =>
  opv ((binOp .lss 3 (g5 13) t74).run Tryd.prog w) R fun t75 w =>
  cond t75 (opv ((Instr.fieldAt 65 t10 1).run Tryd.prog w) R fun t78 w =>
  opv ((Instr.loadAt 35 t78).run Tryd.prog w) R fun t79 w =>
  opv ((Instr.indexAt 35 t79 (g5 13)).run Tryd.prog w) R fun t81 w =>
  opv ((Instr.loadAt 59 t81).run Tryd.prog w) R fun t82 w =>
  opv ((Instr.alloc 59 true (.tuple #[])).run Tryd.prog w) R fun t14 w =>
  opu ((Instr.storeAt 59 t14 t82).run Tryd.prog w) R fun _ w =>
  opv ((Instr.fieldAt 59 t14 2).run Tryd.prog w) R fun t83 w =>
  opv ((Instr.loadAt 4 t83).run Tryd.prog w) R fun t84 w =>
  gd t84 false (fun K => opv ((Instr.fieldAt 59 t14 3).run Tryd.prog w) R K) w fun t86 w =>
  gd t84 false (fun K => opv ((Instr.loadAt 5 t86).run Tryd.prog w) R K) w fun t87 w =>
  gd t84 false (fun K => opv ((binE true .neq 5 t87 (.int .u8 0)).run Tryd.prog w) R K) w fun t88 w =>
  pick t84 (.bool true) t88 w fun t89 w =>
  gd t89 false (fun K => opv ((Instr.fieldAt 59 t14 4).run Tryd.prog w) R K) w fun t91 w =>
  gd t89 false (fun K => opv ((Instr.loadAt 5 t91).run Tryd.prog w) R K) w fun t92 w =>
  gd t89 false (fun K => opv ((binE true .neq 5 t92 (.int .u8 0)).run Tryd.prog w) R K) w fun t93 w =>
  pick t89 (.bool true) t93 w fun t94 w =>
  gd t94 false (fun K => opv ((Instr.fieldAt 59 t14 1).run Tryd.prog w) R K) w fun t96 w =>
  gd t94 false (fun K => opv ((Instr.loadAt 4 t96).run Tryd.prog w) R K) w fun t97 w =>
  gd t94 false (fun K => K t97 w) w fun t98 w =>
  gd t98 true (fun K => opv ((Instr.fieldAt 59 t14 0).run Tryd.prog w) R K) w fun t99 w =>
  gd t98 true (fun K => opv ((Instr.loadAt 5 t99).run Tryd.prog w) R K) w fun t100 w =>
  gd t98 true (fun K => opv ((binOp .lss 5 t100 (.int .u8 64)).run Tryd.prog w) R K) w fun t101 w =>
  gd t94 false (fun K => pick t98 t101 (.bool false) w K) w fun t102 w =>
  pick t94 (.bool true) t102 w fun t103 w =>
  gd t103 false (fun K => opv ((Instr.fieldAt 59 t14 1).run Tryd.prog w) R K) w fun t105 w =>
  gd t103 false (fun K => opv ((Instr.loadAt 4 t105).run Tryd.prog w) R K) w fun t106 w =>
  gd t103 false (fun K => opv ((Op.unary .not t106).run Tryd.prog w) R K) w fun t107 w =>
  gd t103 false (fun K => K t107 w) w fun t108 w =>
  gd t108 true (fun K => opv ((Instr.fieldAt 59 t14 0).run Tryd.prog w) R K) w fun t109 w =>
  gd t108 true (fun K => opv ((Instr.loadAt 5 t109).run Tryd.prog w) R K) w fun t110 w =>
  gd t108 true (fun K => callF Tryd.prog 38 #[t110] w R K) w fun t111 w =>
  gd t108 true (fun K => opv ((Op.unary .not t111).run Tryd.prog w) R K) w fun t112 w =>
  gd t103 false (fun K => pick t108 t112 (.bool false) w K) w fun t113 w =>
  pick t103 (.bool true) t113 w fun t114 w =>
  cond t114 (R (.returned (.tuple #[(.slice none 0 0), (.int .i64 21)])) w)
  (join (upd (upd (upd (mix [75,14,114,4,5,116,8,13] g5 e5) 75 t75) 14 t14) 114 t114) (fun j6 =>
  opv ((Instr.fieldAt 59 t14 1).run Tryd.prog w) R fun t115 w =>
  opv ((Instr.loadAt 4 t115).run Tryd.prog w) R fun t116 w =>
  cond t116 (opv ((Instr.buildSlice 22 1 #[(0, (.int .u8 8))]).run Tryd.prog w) R fun t118 w =>
  opv ((Builtin.append_ #[22, 22] 22 #[(g5 8), t118]).run Tryd.prog w) R fun t119 w =>
  j6 (upd (upd (upd (upd (upd (mix [75,14,114,4,5,116,8,13] g5 e5) 75 t75) 14 t14) 114 t114) 116 t116) 8 t119) w)
  (j6 (upd (upd (upd (upd (mix [75,14,114,4,5,116,8,13] g5 e5) 75 t75) 14 t14) 114 t114) 116 t116) w)) fun e6 g6 w =>
  opv ((Instr.fieldAt 59 t14 0).run Tryd.prog w) R fun t121 w =>
  opv ((Instr.loadAt 5 t121).run Tryd.prog w) R fun t122 w =>
  opv ((Instr.buildSlice 22 1 #[(0, t122)]).run Tryd.prog w) R fun t123 w =>
  opv ((Builtin.append_ #[22, 22] 22 #[(g6 8), t123]).run Tryd.prog w) R fun t124 w =>
  opv ((binOp .add 3 (g5 13) (.int .i64 1)).run Tryd.prog w) R fun t77 w =>
  j5 (upd (upd (mix [116,8] g6 e6) 8 t124) 13 t77) w))
  (j3 (upd (mix [75,14,114,4,5,116,8,13] g5 e5) 75 t75) w)) fun e3 g3 w =>
  opv ((binOp .add 3 (g2 9) (.int .i64 1)).run Tryd.prog w) R fun t42 w =>
  j2 (upd (mix [10,54,11,12,63,75,14,114,4,5,116,8,13] g3 e3) 9 t42) w)
  (j1 (upd (mix [40,10,54,11,12,63,75,14,114,4,5,116,8,13,9] g2 e2) 40 t40) w)) fun e1 g1 w =>
  R (.returned (.tuple #[(g1 8), (.int .i64 0)])) w))
theorem F19.eq (R : Ending → World → Prop) (w : World) (a0 a1 : Value) : F19 R w a0 a1 = shF Tryd.prog 19 [0,1,2,4,5,6,7,8,9,10,11,12,13,14,16,28,40,54,63,75,114,116] [a0, a1] R w := by kernel_rfl
theorem F19.calls {R : Ending → World → Prop} {w : World} {a0 a1 : Value} (h : F19 R w a0 a1) : Calls Tryd.prog 19 #[a0, a1] w R := shF_sound (F19.eq R w a0 a1 ▸ h)

/-- greenscreen/greenscreenref01.Same -/
def F20 (R : Ending → World → Prop) (w : World) (a0 a1 : Value) : Prop :=
  opv ((Builtin.len_ #[22] 3 #[a0]).run Tryd.prog w) R fun t7 w =>
  opv ((Builtin.len_ #[22] 3 #[a1]).run Tryd.prog w) R fun t9 w =>
  opv ((binE false .neq 3 t7 t9).run Tryd.prog w) R fun t10 w =>
  cond t10 (R (.returned (.bool false)) w)
  (join (upd (upd (ini [a0, a1]) 4 (.bool false)) 10 t10) (fun j1 =>
  loop (upd (upd (upd (ini [a0, a1]) 4 (.bool false)) 10 t10) 5 (.int .i64 0)) w fun e2 g2 w j2 =>
  opv ((Builtin.len_ #[22] 3 #[a0]).run Tryd.prog w) R fun t13 w =>
  opv ((binOp .lss 3 (g2 5) t13).run Tryd.prog w) R fun t14 w =>
  cond t14 (drawn w fun T w =>
  qop T w (fun w K => opv ((Instr.indexAt 22 a0 (g2 5)).run Tryd.prog w) noR K) fun t19 =>
  qop T w (fun w K => opv ((Instr.loadAt 5 t19).run Tryd.prog w) noR K) fun t20 =>
  qop T w (fun w K => opv ((Instr.indexAt 22 a1 (g2 5)).run Tryd.prog w) noR K) fun t23 =>
  qop T w (fun w K => opv ((Instr.loadAt 5 t23).run Tryd.prog w) noR K) fun t24 =>
  qop T w (fun w K => opv ((binE false .neq 5 t20 t24).run Tryd.prog w) noR K) fun t25 =>
  ext w fun w =>
  cond t25 (R (.returned (.bool false)) w)
  (opv ((binOp .add 3 (g2 5) (.int .i64 1)).run Tryd.prog w) R fun t16 w =>
  j2 (upd (upd (upd (mix [14,25,4,5] g2 e2) 14 t14) 25 t25) 5 t16) w))
  (j1 (upd (mix [14,25,4,5] g2 e2) 14 t14) w)) fun e1 g1 w =>
  R (.returned (.bool true)) w)
theorem F20.eq (R : Ending → World → Prop) (w : World) (a0 a1 : Value) : F20 R w a0 a1 = shF Tryd.prog 20 [0,1,4,5,10,14,25] [a0, a1] R w := by kernel_rfl
theorem F20.calls {R : Ending → World → Prop} {w : World} {a0 a1 : Value} (h : F20 R w a0 a1) : Calls Tryd.prog 20 #[a0, a1] w R := shF_sound (F20.eq R w a0 a1 ▸ h)

/-- greenscreen/grammar.Same -/
def F21 (R : Ending → World → Prop) (w : World) (a0 a1 : Value) : Prop :=
  opv ((Instr.box 26 a0).run Tryd.prog w) R fun t2 w =>
  opv ((Instr.box 26 a1).run Tryd.prog w) R fun t3 w =>
  opv ((Instr.fieldAt 26 t2 0).run Tryd.prog w) R fun t6 w =>
  opv ((Instr.loadAt 5 t6).run Tryd.prog w) R fun t7 w =>
  opv ((Instr.fieldAt 26 t3 0).run Tryd.prog w) R fun t8 w =>
  opv ((Instr.loadAt 5 t8).run Tryd.prog w) R fun t9 w =>
  opv ((binE false .eql 5 t7 t9).run Tryd.prog w) R fun t10 w =>
  gd t10 true (fun K => opv ((Instr.fieldAt 26 t2 1).run Tryd.prog w) R K) w fun t12 w =>
  gd t10 true (fun K => opv ((Instr.loadAt 4 t12).run Tryd.prog w) R K) w fun t13 w =>
  gd t10 true (fun K => opv ((Instr.fieldAt 26 t3 1).run Tryd.prog w) R K) w fun t14 w =>
  gd t10 true (fun K => opv ((Instr.loadAt 4 t14).run Tryd.prog w) R K) w fun t15 w =>
  gd t10 true (fun K => opv ((binE false .eql 4 t13 t15).run Tryd.prog w) R K) w fun t16 w =>
  pick t10 t16 (.bool false) w fun t17 w =>
  gd t17 true (fun K => opv ((Instr.fieldAt 26 t2 2).run Tryd.prog w) R K) w fun t19 w =>
  gd t17 true (fun K => opv ((Instr.loadAt 3 t19).run Tryd.prog w) R K) w fun t20 w =>
  gd t17 true (fun K => opv ((Instr.fieldAt 26 t3 2).run Tryd.prog w) R K) w fun t21 w =>
  gd t17 true (fun K => opv ((Instr.loadAt 3 t21).run Tryd.prog w) R K) w fun t22 w =>
  gd t17 true (fun K => opv ((binE false .eql 3 t20 t22).run Tryd.prog w) R K) w fun t23 w =>
  pick t17 t23 (.bool false) w fun t24 w =>
  gd t24 true (fun K => opv ((Instr.fieldAt 26 t2 3).run Tryd.prog w) R K) w fun t26 w =>
  gd t24 true (fun K => opv ((Instr.loadAt 24 t26).run Tryd.prog w) R K) w fun t27 w =>
  gd t24 true (fun K => opv ((Instr.fieldAt 26 t3 3).run Tryd.prog w) R K) w fun t28 w =>
  gd t24 true (fun K => opv ((Instr.loadAt 24 t28).run Tryd.prog w) R K) w fun t29 w =>
  gd t24 true (fun K => K (.func (.func 39) #[] #[]) w) w fun t30 w =>
  gd t24 true (fun K => callF Tryd.prog 41 #[t27, t29, t30] w R K) w fun t31 w =>
  pick t24 t31 (.bool false) w fun t32 w =>
  R (.returned t32) w
theorem F21.eq (R : Ending → World → Prop) (w : World) (a0 a1 : Value) : F21 R w a0 a1 = shF Tryd.prog 21 [0,1,2,3,4,5] [a0, a1] R w := by kernel_rfl
theorem F21.calls {R : Ending → World → Prop} {w : World} {a0 a1 : Value} (h : F21 R w a0 a1) : Calls Tryd.prog 21 #[a0, a1] w R := shF_sound (F21.eq R w a0 a1 ▸ h)

/-- (*greenscreen/grammar.reader).inbound -/
def F23 (R : Ending → World → Prop) (w : World) (a0 : Value) : Prop :=
  opv ((Instr.alloc 26 true (.tuple #[])).run Tryd.prog w) R fun t2 w =>
  callF Tryd.prog 43 #[a0] w R fun t5 w =>
  opv ((Instr.build 26 #[(0, t5)]).run Tryd.prog w) R fun t6 w =>
  opv ((Instr.alloc 26 true (.tuple #[])).run Tryd.prog w) R fun t3 w =>
  opu ((Instr.storeAt 26 t3 t6).run Tryd.prog w) R fun _ w =>
  nilck a0 w fun t8 w =>
  opv ((Instr.fieldAt 98 t8 0).run Tryd.prog w) R fun t9 w =>
  opv ((Instr.loadAt 22 t9).run Tryd.prog w) R fun t10 w =>
  opv ((Builtin.len_ #[22] 3 #[t10]).run Tryd.prog w) R fun t11 w =>
  opv ((binE true .eql 3 t11 (.int .i64 0)).run Tryd.prog w) R fun t12 w =>
  cond t12 (opv ((Instr.fieldAt 26 t3 1).run Tryd.prog w) R fun t13 w =>
  opu ((Instr.storeAt 4 t13 (.bool true)).run Tryd.prog w) R fun _ w =>
  opv ((Instr.loadAt 26 t3).run Tryd.prog w) R fun t14 w =>
  opu ((Instr.storeAt 26 t2 t14).run Tryd.prog w) R fun _ w =>
  ldv ((Instr.loadAt 26 t2).run Tryd.prog w) w fun r0 =>
  R (.returned r0) w)
  (callF Tryd.prog 44 #[a0] w R fun t16 w =>
  opv ((Instr.fieldAt 26 t3 2).run Tryd.prog w) R fun t17 w =>
  opu ((Instr.storeAt 3 t17 t16).run Tryd.prog w) R fun _ w =>
  join (upd (upd (upd (ini [a0]) 2 t2) 3 t3) 12 t12) (fun j1 =>
  loop (upd (upd (upd (ini [a0]) 2 t2) 3 t3) 12 t12) w fun e2 g2 w j2 =>
  nilck a0 w fun t19 w =>
  opv ((Instr.fieldAt 98 t19 0).run Tryd.prog w) R fun t20 w =>
  opv ((Instr.loadAt 22 t20).run Tryd.prog w) R fun t21 w =>
  opv ((Builtin.len_ #[22] 3 #[t21]).run Tryd.prog w) R fun t22 w =>
  opv ((binOp .gtr 3 t22 (.int .i64 0)).run Tryd.prog w) R fun t23 w =>
  cond t23 (drawn w fun T w =>
  qop T w (fun w K => opv ((Instr.fieldAt 26 t3 3).run Tryd.prog w) noR K) fun t24 =>
  qop T w (fun w K => opv ((Instr.loadAt 24 t24).run Tryd.prog w) noR K) fun t25 =>
  ext w fun w =>
  lop T w (fun w K => callF Tryd.prog 45 #[a0] w R K) fun t27 w =>
  ext w fun w =>
  lop T w (fun w K => opv ((Instr.buildSlice 24 1 #[(0, t27)]).run Tryd.prog w) R K) fun t28 w =>
  ext w fun w =>
  lop T w (fun w K => opv ((Builtin.append_ #[24, 24] 24 #[t25, t28]).run Tryd.prog w) R K) fun t29 w =>
  qop T w (fun w K => opv ((Instr.fieldAt 26 t3 3).run Tryd.prog w) noR K) fun t30 =>
  ext w fun w =>
  opu ((Instr.storeAt 24 t30 t29).run Tryd.prog w) R fun _ w =>
  ext w fun w =>
  j2 (upd (mix [23] g2 e2) 23 t23) w)
  (j1 (upd (mix [23] g2 e2) 23 t23) w)) fun e1 g1 w =>
  opv ((Instr.loadAt 26 t3).run Tryd.prog w) R fun t31 w =>
  opu ((Instr.storeAt 26 t2 t31).run Tryd.prog w) R fun _ w =>
  ldv ((Instr.loadAt 26 t2).run Tryd.prog w) w fun r0 =>
  R (.returned r0) w)
theorem F23.eq (R : Ending → World → Prop) (w : World) (a0 : Value) : F23 R w a0 = shF Tryd.prog 23 [0,2,3,12,23] [a0] R w := by kernel_rfl
theorem F23.calls {R : Ending → World → Prop} {w : World} {a0 : Value} (h : F23 R w a0) : Calls Tryd.prog 23 #[a0] w R := shF_sound (F23.eq R w a0 ▸ h)

/-- greenscreen/greenscreenref02.Decode -/
def F24 (R : Ending → World → Prop) (w : World) (a0 a1 : Value) : Prop :=
  opv ((binOp .lss 5 a0 (.int .u8 64)).run Tryd.prog w) R fun t6 w =>
  cond t6 (opv ((convert 5 3 a0).run Tryd.prog w) R fun t8 w =>
  opv ((binOp .mul 3 (.int .i64 256) t8).run Tryd.prog w) R fun t9 w =>
  opv ((convert 5 3 a1).run Tryd.prog w) R fun t11 w =>
  opv ((binOp .add 3 t9 t11).run Tryd.prog w) R fun t12 w =>
  R (.returned t12) w)
  (opv ((binOp .rem 5 a0 (.int .u8 64)).run Tryd.prog w) R fun t14 w =>
  opv ((convert 5 3 t14).run Tryd.prog w) R fun t15 w =>
  opv ((binOp .mul 3 (.int .i64 64) t15).run Tryd.prog w) R fun t16 w =>
  opv ((binOp .rem 5 a1 (.int .u8 64)).run Tryd.prog w) R fun t18 w =>
  opv ((convert 5 3 t18).run Tryd.prog w) R fun t19 w =>
  opv ((binOp .add 3 t16 t19).run Tryd.prog w) R fun t20 w =>
  R (.returned t20) w)
theorem F24.eq (R : Ending → World → Prop) (w : World) (a0 a1 : Value) : F24 R w a0 a1 = shF Tryd.prog 24 [0,1,4,6] [a0, a1] R w := by kernel_rfl
theorem F24.calls {R : Ending → World → Prop} {w : World} {a0 a1 : Value} (h : F24 R w a0 a1) : Calls Tryd.prog 24 #[a0, a1] w R := shF_sound (F24.eq R w a0 a1 ▸ h)

/-- greenscreen/greenscreenref25.cell -/
def F25 (R : Ending → World → Prop) (w : World) (a0 a1 : Value) : Prop :=
  opv ((Instr.alloc 59 true (.tuple #[])).run Tryd.prog w) R fun t4 w =>
  opv ((Instr.indexAt 22 a0 a1).run Tryd.prog w) R fun t9 w =>
  opv ((Instr.loadAt 5 t9).run Tryd.prog w) R fun t10 w =>
  callF Tryd.prog 38 #[t10] w R fun t11 w =>
  cond t11 (opv ((Instr.indexAt 22 a0 a1).run Tryd.prog w) R fun t14 w =>
  opv ((Instr.loadAt 5 t14).run Tryd.prog w) R fun t15 w =>
  opv ((Instr.build 59 #[(0, t15)]).run Tryd.prog w) R fun t16 w =>
  opu ((Instr.storeAt 59 t4 t16).run Tryd.prog w) R fun _ w =>
  ldv ((Instr.loadAt 59 t4).run Tryd.prog w) w fun r0 =>
  R (.returned (.tuple #[r0, (.int .i64 1), (.int .i64 0)])) w)
  (opv ((Instr.indexAt 22 a0 a1).run Tryd.prog w) R fun t19 w =>
  opv ((Instr.loadAt 5 t19).run Tryd.prog w) R fun t20 w =>
  opv ((binE true .neq 5 t20 (.int .u8 8)).run Tryd.prog w) R fun t21 w =>
  cond t21 (opv ((Instr.build 59 #[]).run Tryd.prog w) R fun t22 w =>
  opu ((Instr.storeAt 59 t4 t22).run Tryd.prog w) R fun _ w =>
  ldv ((Instr.loadAt 59 t4).run Tryd.prog w) w fun r0 =>
  R (.returned (.tuple #[r0, (.int .i64 0), (.int .i64 21)])) w)
  (opv ((binOp .add 3 a1 (.int .i64 1)).run Tryd.prog w) R fun t24 w =>
  opv ((Builtin.len_ #[22] 3 #[a0]).run Tryd.prog w) R fun t26 w =>
  opv ((binOp .geq 3 t24 t26).run Tryd.prog w) R fun t27 w =>
  cond t27 (opv ((Instr.build 59 #[]).run Tryd.prog w) R fun t28 w =>
  opu ((Instr.storeAt 59 t4 t28).run Tryd.prog w) R fun _ w =>
  ldv ((Instr.loadAt 59 t4).run Tryd.prog w) w fun r0 =>
  R (.returned (.tuple #[r0, (.int .i64 0), (.int .i64 20)])) w)
  (opv ((binOp .add 3 a1 (.int .i64 1)).run Tryd.prog w) R fun t31 w =>
  opv ((Instr.indexAt 22 a0 t31).run Tryd.prog w) R fun t32 w =>
  opv ((Instr.loadAt 5 t32).run Tryd.prog w) R fun t33 w =>
  opv ((binOp .lss 5 t33 (.int .u8 64)).run Tryd.prog w) R fun t34 w =>
  cond t34 (opv ((Instr.build 59 #[]).run Tryd.prog w) R fun t35 w =>
  opu ((Instr.storeAt 59 t4 t35).run Tryd.prog w) R fun _ w =>
  ldv ((Instr.loadAt 59 t4).run Tryd.prog w) w fun r0 =>
  R (.returned (.tuple #[r0, (.int .i64 0), (.int .i64 21)])) w)
  (opv ((binOp .add 3 a1 (.int .i64 1)).run Tryd.prog w) R fun t38 w =>
  opv ((Instr.indexAt 22 a0 t38).run Tryd.prog w) R fun t39 w =>
  opv ((Instr.loadAt 5 t39).run Tryd.prog w) R fun t40 w =>
  opv ((Instr.build 59 #[(0, t40), (1, (.bool true))]).run Tryd.prog w) R fun t41 w =>
  opu ((Instr.storeAt 59 t4 t41).run Tryd.prog w) R fun _ w =>
  ldv ((Instr.loadAt 59 t4).run Tryd.prog w) w fun r0 =>
  R (.returned (.tuple #[r0, (.int .i64 2), (.int .i64 0)])) w))))
theorem F25.eq (R : Ending → World → Prop) (w : World) (a0 a1 : Value) : F25 R w a0 a1 = shF Tryd.prog 25 [0,1,4,5,6,11,21,27,34] [a0, a1] R w := by kernel_rfl
theorem F25.calls {R : Ending → World → Prop} {w : World} {a0 a1 : Value} (h : F25 R w a0 a1) : Calls Tryd.prog 25 #[a0, a1] w R := shF_sound (F25.eq R w a0 a1 ▸ h)

/-- (*greenscreen/grammar.reader).buffer -/
def F27 (R : Ending → World → Prop) (w : World) (a0 : Value) : Prop :=
  opv ((Instr.alloc 69 true (.tuple #[])).run Tryd.prog w) R fun t2 w =>
  callF Tryd.prog 43 #[a0] w R fun t5 w =>
  callF Tryd.prog 44 #[a0] w R fun t7 w =>
  opv ((Instr.build 69 #[(0, t5), (1, t7)]).run Tryd.prog w) R fun t8 w =>
  opv ((Instr.alloc 69 true (.tuple #[])).run Tryd.prog w) R fun t3 w =>
  opu ((Instr.storeAt 69 t3 t8).run Tryd.prog w) R fun _ w =>
  join (upd (upd (ini [a0]) 2 t2) 3 t3) (fun j1 =>
  loop (upd (upd (ini [a0]) 2 t2) 3 t3) w fun e2 g2 w j2 =>
  nilck a0 w fun t10 w =>
  opv ((Instr.fieldAt 98 t10 0).run Tryd.prog w) R fun t11 w =>
  opv ((Instr.loadAt 22 t11).run Tryd.prog w) R fun t12 w =>
  opv ((Builtin.len_ #[22] 3 #[t12]).run Tryd.prog w) R fun t13 w =>
  opv ((binOp .gtr 3 t13 (.int .i64 0)).run Tryd.prog w) R fun t14 w =>
  cond t14 (nilck a0 w fun t16 w =>
  opv ((Instr.fieldAt 98 t16 0).run Tryd.prog w) R fun t17 w =>
  opv ((Instr.loadAt 22 t17).run Tryd.prog w) R fun t18 w =>
  opv ((Instr.indexAt 22 t18 (.int .i64 0)).run Tryd.prog w) R fun t19 w =>
  opv ((Instr.loadAt 5 t19).run Tryd.prog w) R fun t20 w =>
  opv ((binE true .eql 5 t20 (.int .u8 29)).run Tryd.prog w) R fun t21 w =>
  cond t21 (callF Tryd.prog 43 #[a0] w R fun t23 w =>
  drawn w fun T w =>
  qop T w (fun w K => opv ((Instr.fieldAt 69 t3 2).run Tryd.prog w) noR K) fun t24 =>
  qop T w (fun w K => opv ((Instr.loadAt 35 t24).run Tryd.prog w) noR K) fun t25 =>
  ext w fun w =>
  lop T w (fun w K => callF Tryd.prog 43 #[a0] w R K) fun t27 w =>
  qop T w (fun w K => opv ((binOp .and 5 t27 (.int .u8 63)).run Tryd.prog w) noR K) fun t28 =>
  qop T w (fun w K => opv ((Instr.build 59 #[(0, t28), (2, (.bool true))]).run Tryd.prog w) noR K) fun t29 =>
  ext w fun w =>
  lop T w (fun w K => opv ((Instr.buildSlice 35 1 #[(0, t29)]).run Tryd.prog w) R K) fun t30 w =>
  ext w fun w =>
  lop T w (fun w K => opv ((Builtin.append_ #[35, 35] 35 #[t25, t30]).run Tryd.prog w) R K) fun t31 w =>
  qop T w (fun w K => opv ((Instr.fieldAt 69 t3 2).run Tryd.prog w) noR K) fun t32 =>
  ext w fun w =>
  opu ((Instr.storeAt 35 t32 t31).run Tryd.prog w) R fun _ w =>
  ext w fun w =>
  j2 (upd (upd (mix [14,21] g2 e2) 14 t14) 21 t21) w)
  (drawn w fun T w =>
  qop T w (fun w K => opv ((Instr.fieldAt 69 t3 2).run Tryd.prog w) noR K) fun t33 =>
  qop T w (fun w K => opv ((Instr.loadAt 35 t33).run Tryd.prog w) noR K) fun t34 =>
  ext w fun w =>
  lop T w (fun w K => callF Tryd.prog 47 #[a0] w R K) fun t36 w =>
  ext w fun w =>
  lop T w (fun w K => opv ((Instr.buildSlice 35 1 #[(0, t36)]).run Tryd.prog w) R K) fun t37 w =>
  ext w fun w =>
  lop T w (fun w K => opv ((Builtin.append_ #[35, 35] 35 #[t34, t37]).run Tryd.prog w) R K) fun t38 w =>
  qop T w (fun w K => opv ((Instr.fieldAt 69 t3 2).run Tryd.prog w) noR K) fun t39 =>
  ext w fun w =>
  opu ((Instr.storeAt 35 t39 t38).run Tryd.prog w) R fun _ w =>
  ext w fun w =>
  j2 (upd (upd (mix [14,21] g2 e2) 14 t14) 21 t21) w))
  (j1 (upd (mix [14,21] g2 e2) 14 t14) w)) fun e1 g1 w =>
  opv ((Instr.loadAt 69 t3).run Tryd.prog w) R fun t40 w =>
  opu ((Instr.storeAt 69 t2 t40).run Tryd.prog w) R fun _ w =>
  ldv ((Instr.loadAt 69 t2).run Tryd.prog w) w fun r0 =>
  R (.returned r0) w
theorem F27.eq (R : Ending → World → Prop) (w : World) (a0 : Value) : F27 R w a0 = shF Tryd.prog 27 [0,2,3,14,21] [a0] R w := by kernel_rfl
theorem F27.calls {R : Ending → World → Prop} {w : World} {a0 : Value} (h : F27 R w a0) : Calls Tryd.prog 27 #[a0] w R := shF_sound (F27.eq R w a0 ▸ h)

/-- greenscreen/grammar.name -/
def F28 (R : Ending → World → Prop) (w : World) (a0 : Value) : Prop :=
  opv ((Instr.build 105 #[(0, (.int .i64 17)), (1, a0)]).run Tryd.prog w) R fun t5 w =>
  callF Tryd.prog 48 #[t5] w R fun t6 w =>
  opv ((binE true .neq 9 t6 (.string ⟨#[]⟩)).run Tryd.prog w) R fun t8 w =>
  cond t8 (R (.returned t6) w)
  (drawn w fun T w =>
  qop T w (fun w K => opv ((binOp .shr 5 a0 (.int .u64 4)).run Tryd.prog w) noR K) fun t11 =>
  qop T w (fun w K => opv ((binOp .shr 5 a0 (.int .u64 4)).run Tryd.prog w) noR K) fun t13 =>
  qop T w (fun w K => opv ((binOp .add 5 t13 (.int .u8 1)).run Tryd.prog w) noR K) fun t14 =>
  qop T w (fun w K => opv ((Instr.sliceAt 9 (.string ⟨#[48, 49, 50, 51, 52, 53, 54, 55, 56, 57, 65, 66, 67, 68, 69, 70]⟩) (some t11) (some t14) none).run Tryd.prog w) noR K) fun t15 =>
  qop T w (fun w K => opv ((binOp .and 5 a0 (.int .u8 15)).run Tryd.prog w) noR K) fun t17 =>
  qop T w (fun w K => opv ((binOp .and 5 a0 (.int .u8 15)).run Tryd.prog w) noR K) fun t19 =>
  qop T w (fun w K => opv ((binOp .add 5 t19 (.int .u8 1)).run Tryd.prog w) noR K) fun t20 =>
  qop T w (fun w K => opv ((Instr.sliceAt 9 (.string ⟨#[48, 49, 50, 51, 52, 53, 54, 55, 56, 57, 65, 66, 67, 68, 69, 70]⟩) (some t17) (some t20) none).run Tryd.prog w) noR K) fun t21 =>
  qop T w (fun w K => opv ((binOp .add 9 t15 t21).run Tryd.prog w) noR K) fun t22 =>
  ext w fun w =>
  R (.returned t22) w)
theorem F28.eq (R : Ending → World → Prop) (w : World) (a0 : Value) : F28 R w a0 = shF Tryd.prog 28 [0,2,3,8] [a0] R w := by kernel_rfl
theorem F28.calls {R : Ending → World → Prop} {w : World} {a0 : Value} (h : F28 R w a0) : Calls Tryd.prog 28 #[a0] w R := shF_sound (F28.eq R w a0 ▸ h)

/-- (*strings.Builder).WriteString -/
def F29 (R : Ending → World → Prop) (w : World) (a0 a1 : Value) : Prop :=
  callF Tryd.prog 49 #[a0] w R fun t7 w =>
  nilck a0 w fun t10 w =>
  opv ((Instr.fieldAt 77 t10 1).run Tryd.prog w) R fun t11 w =>
  opv ((Instr.loadAt 22 t11).run Tryd.prog w) R fun t12 w =>
  opv ((Builtin.append_ #[22, 9] 22 #[t12, a1]).run Tryd.prog w) R fun t14 w =>
  nilck a0 w fun t15 w =>
  opv ((Instr.fieldAt 77 t15 1).run Tryd.prog w) R fun t16 w =>
  opu ((Instr.storeAt 22 t16 t14).run Tryd.prog w) R fun _ w =>
  opv ((Builtin.len_ #[9] 3 #[a1]).run Tryd.prog w) R fun t18 w =>
  R (.returned (.tuple #[t18, .nilIface])) w
theorem F29.eq (R : Ending → World → Prop) (w : World) (a0 a1 : Value) : F29 R w a0 a1 = shF Tryd.prog 29 [0,1,4,5] [a0, a1] R w := by kernel_rfl
theorem F29.calls {R : Ending → World → Prop} {w : World} {a0 a1 : Value} (h : F29 R w a0 a1) : Calls Tryd.prog 29 #[a0, a1] w R := shF_sound (F29.eq R w a0 a1 ▸ h)

/-- strconv.Itoa -/
def F30 (R : Ending → World → Prop) (w : World) (a0 : Value) : Prop :=
  callF Tryd.prog 50 #[a0] w R fun t4 w =>
  R (.returned t4) w
theorem F30.eq (R : Ending → World → Prop) (w : World) (a0 : Value) : F30 R w a0 = shF Tryd.prog 30 [0,2] [a0] R w := by kernel_rfl
theorem F30.calls {R : Ending → World → Prop} {w : World} {a0 : Value} (h : F30 R w a0) : Calls Tryd.prog 30 #[a0] w R := shF_sound (F30.eq R w a0 ▸ h)

/-- greenscreen/grammar.sign -/
def F31 (R : Ending → World → Prop) (w : World) (a0 a1 : Value) : Prop :=
  opv ((Instr.box 59 a1).run Tryd.prog w) R fun t3 w =>
  opv ((Instr.fieldAt 59 t3 2).run Tryd.prog w) R fun t6 w =>
  opv ((Instr.loadAt 4 t6).run Tryd.prog w) R fun t7 w =>
  gd t7 false (fun K => opv ((Instr.fieldAt 59 t3 1).run Tryd.prog w) R K) w fun t9 w =>
  gd t7 false (fun K => opv ((Instr.loadAt 4 t9).run Tryd.prog w) R K) w fun t10 w =>
  gd t7 false (fun K => opv ((Op.unary .not t10).run Tryd.prog w) R K) w fun t11 w =>
  gd t7 false (fun K => K t11 w) w fun t12 w =>
  gd t12 true (fun K => opv ((Instr.fieldAt 59 t3 0).run Tryd.prog w) R K) w fun t13 w =>
  gd t12 true (fun K => opv ((Instr.loadAt 5 t13).run Tryd.prog w) R K) w fun t14 w =>
  gd t12 true (fun K => callF Tryd.prog 51 #[t14] w R K) w fun t15 w =>
  gd t12 true (fun K => opv ((Op.unary .not t15).run Tryd.prog w) R K) w fun t16 w =>
  gd t7 false (fun K => pick t12 t16 (.bool false) w K) w fun t17 w =>
  pick t7 (.bool true) t17 w fun t18 w =>
  cond t18 (R (.returned (.string ⟨#[32]⟩)) w)
  (opv ((Instr.fieldAt 59 t3 1).run Tryd.prog w) R fun t20 w =>
  opv ((Instr.loadAt 4 t20).run Tryd.prog w) R fun t21 w =>
  cond t21 (opv ((Instr.fieldAt 59 t3 0).run Tryd.prog w) R fun t22 w =>
  opv ((Instr.loadAt 5 t22).run Tryd.prog w) R fun t23 w =>
  callF Tryd.prog 52 #[t23] w R fun t24 w =>
  opv ((convert 21 9 t24).run Tryd.prog w) R fun t25 w =>
  R (.returned t25) w)
  (opv ((Instr.fieldAt 59 t3 0).run Tryd.prog w) R fun t27 w =>
  opv ((Instr.loadAt 5 t27).run Tryd.prog w) R fun t28 w =>
  callF Tryd.prog 53 #[a0, t28] w R fun t29 w =>
  opv ((convert 21 9 t29).run Tryd.prog w) R fun t30 w =>
  R (.returned t30) w))
theorem F31.eq (R : Ending → World → Prop) (w : World) (a0 a1 : Value) : F31 R w a0 a1 = shF Tryd.prog 31 [0,1,3,4,5,19] [a0, a1] R w := by kernel_rfl
theorem F31.calls {R : Ending → World → Prop} {w : World} {a0 a1 : Value} (h : F31 R w a0 a1) : Calls Tryd.prog 31 #[a0, a1] w R := shF_sound (F31.eq R w a0 a1 ▸ h)

/-- (*strings.Builder).String -/
def F32 (R : Ending → World → Prop) (w : World) (a0 : Value) : Prop :=
  drawn w fun T w =>
  qop T w (fun w K => nilck a0 w K) fun t4 =>
  qop T w (fun w K => opv ((Instr.fieldAt 77 t4 1).run Tryd.prog w) noR K) fun t5 =>
  qop T w (fun w K => opv ((Instr.loadAt 22 t5).run Tryd.prog w) noR K) fun t6 =>
  qop T w (fun w K => nilck a0 w K) fun t9 =>
  qop T w (fun w K => opv ((Instr.fieldAt 77 t9 1).run Tryd.prog w) noR K) fun t10 =>
  qop T w (fun w K => opv ((Instr.loadAt 22 t10).run Tryd.prog w) noR K) fun t11 =>
  qop T w (fun w K => opv ((Builtin.len_ #[22] 3 #[t11]).run Tryd.prog w) noR K) fun t12 =>
  ext w fun w =>
  lop T w (fun w K => opv ((Builtin.unsafeSliceData_ #[22] 109 #[t6]).run Tryd.prog w) R K) fun t7 w =>
  ext w fun w =>
  lop T w (fun w K => opv ((Builtin.unsafeString_ #[109, 3] 9 #[t7, t12]).run Tryd.prog w) R K) fun t13 w =>
  ext w fun w =>
  R (.returned t13) w
theorem F32.eq (R : Ending → World → Prop) (w : World) (a0 : Value) : F32 R w a0 = shF Tryd.prog 32 [0,2] [a0] R w := by kernel_rfl
theorem F32.calls {R : Ending → World → Prop} {w : World} {a0 : Value} (h : F32 R w a0) : Calls Tryd.prog 32 #[a0] w R := shF_sound (F32.eq R w a0 ▸ h)

/-- greenscreen/greenscreenref22.Attention -/
def F33 (R : Ending → World → Prop) (w : World) (a0 : Value) : Prop :=
  opv ((Instr.buildSlice 22 29 #[(0, (.int .u8 125)), (1, (.int .u8 109)), (2, (.int .u8 108)), (3, (.int .u8 110)), (4, (.int .u8 107)), (5, (.int .u8 241)), (6, (.int .u8 242)), (7, (.int .u8 243)), (8, (.int .u8 244)), (9, (.int .u8 245)), (10, (.int .u8 246)), (11, (.int .u8 247)), (12, (.int .u8 248)), (13, (.int .u8 249)), (14, (.int .u8 122)), (15, (.int .u8 123)), (16, (.int .u8 124)), (17, (.int .u8 193)), (18, (.int .u8 194)), (19, (.int .u8 195)), (20, (.int .u8 196)), (21, (.int .u8 197)), (22, (.int .u8 198)), (23, (.int .u8 199)), (24, (.int .u8 200)), (25, (.int .u8 201)), (26, (.int .u8 74)), (27, (.int .u8 75)), (28, (.int .u8 76))]).run Tryd.prog w) R fun t6 w =>
  opv ((Instr.buildSlice 110 5 #[(0, (.string ⟨#[69, 78, 84, 69, 82]⟩)), (1, (.string ⟨#[67, 76, 69, 65, 82]⟩)), (2, (.string ⟨#[80, 65, 49]⟩)), (3, (.string ⟨#[80, 65, 50]⟩)), (4, (.string ⟨#[80, 65, 51]⟩))]).run Tryd.prog w) R fun t7 w =>
  join (upd (upd (upd (ini [a0]) 2 (.string ⟨#[]⟩)) 3 t6) 4 t7) (fun j1 =>
  loop (upd (upd (upd (upd (ini [a0]) 2 (.string ⟨#[]⟩)) 3 t6) 4 t7) 5 (.int .i64 0)) w fun e2 g2 w j2 =>
  opv ((Builtin.len_ #[22] 3 #[t6]).run Tryd.prog w) R fun t10 w =>
  opv ((binOp .lss 3 (g2 5) t10).run Tryd.prog w) R fun t11 w =>
  cond t11 (opv ((Instr.indexAt 22 t6 (g2 5)).run Tryd.prog w) R fun t16 w =>
  opv ((Instr.loadAt 5 t16).run Tryd.prog w) R fun t17 w =>
  opv ((binE false .eql 5 t17 a0).run Tryd.prog w) R fun t19 w =>
  gd t19 true (fun K => K (g2 5) w) w fun t21 w =>
  gd t19 true (fun K => opv ((binOp .lss 3 t21 (.int .i64 5)).run Tryd.prog w) R K) w fun t22 w =>
  pick t19 t22 (.bool false) w fun t23 w =>
  cond t23 (opv ((Instr.indexAt 110 t7 (g2 5)).run Tryd.prog w) R fun t26 w =>
  opv ((Instr.loadAt 9 t26).run Tryd.prog w) R fun t27 w =>
  R (.returned t27) w)
  (opv ((Instr.indexAt 22 t6 (g2 5)).run Tryd.prog w) R fun t30 w =>
  opv ((Instr.loadAt 5 t30).run Tryd.prog w) R fun t31 w =>
  opv ((binE false .eql 5 t31 a0).run Tryd.prog w) R fun t33 w =>
  cond t33 (opv ((binOp .sub 3 (g2 5) (.int .i64 4)).run Tryd.prog w) R fun t35 w =>
  callF Tryd.prog 30 #[t35] w R fun t36 w =>
  opv ((binOp .add 9 (.string ⟨#[80, 70]⟩) t36).run Tryd.prog w) R fun t37 w =>
  R (.returned t37) w)
  (opv ((binOp .add 3 (g2 5) (.int .i64 1)).run Tryd.prog w) R fun t13 w =>
  j2 (upd (upd (upd (upd (mix [11,23,33,2,5] g2 e2) 11 t11) 23 t23) 33 t33) 5 t13) w)))
  (j1 (upd (mix [11,23,33,2,5] g2 e2) 11 t11) w)) fun e1 g1 w =>
  R (.returned (.string ⟨#[]⟩)) w
theorem F33.eq (R : Ending → World → Prop) (w : World) (a0 : Value) : F33 R w a0 = shF Tryd.prog 33 [0,2,3,4,5,11,23,33] [a0] R w := by kernel_rfl
theorem F33.calls {R : Ending → World → Prop} {w : World} {a0 : Value} (h : F33 R w a0) : Calls Tryd.prog 33 #[a0] w R := shF_sound (F33.eq R w a0 ▸ h)

/-- greenscreen/greenscreenref14.Sign -/
def F34 (R : Ending → World → Prop) (w : World) (a0 a1 : Value) : Prop :=
  opv ((Instr.box 59 a1).run Tryd.prog w) R fun t3 w =>
  opv ((Instr.fieldAt 59 t3 2).run Tryd.prog w) R fun t5 w =>
  opv ((Instr.loadAt 4 t5).run Tryd.prog w) R fun t6 w =>
  cond t6 (R (.returned (.string ⟨#[32]⟩)) w)
  (opv ((Instr.fieldAt 59 t3 1).run Tryd.prog w) R fun t7 w =>
  opv ((Instr.loadAt 4 t7).run Tryd.prog w) R fun t8 w =>
  cond t8 (opv ((Instr.fieldAt 59 t3 0).run Tryd.prog w) R fun t9 w =>
  opv ((Instr.loadAt 5 t9).run Tryd.prog w) R fun t10 w =>
  opv ((convert 5 3 t10).run Tryd.prog w) R fun t11 w =>
  opv ((binOp .add 3 (.int .i64 57344) t11).run Tryd.prog w) R fun t12 w =>
  opv ((convert 3 21 t12).run Tryd.prog w) R fun t13 w =>
  opv ((convert 21 9 t13).run Tryd.prog w) R fun t14 w =>
  R (.returned t14) w)
  (opv ((Instr.fieldAt 59 t3 0).run Tryd.prog w) R fun t15 w =>
  opv ((Instr.loadAt 5 t15).run Tryd.prog w) R fun t16 w =>
  callF Tryd.prog 54 #[t16] w R fun t17 w =>
  opv ((Op.unary .not t17).run Tryd.prog w) R fun t18 w =>
  cond t18 (R (.returned (.string ⟨#[32]⟩)) w)
  (opv ((Instr.fieldAt 59 t3 0).run Tryd.prog w) R fun t20 w =>
  opv ((Instr.loadAt 5 t20).run Tryd.prog w) R fun t21 w =>
  callF Tryd.prog 55 #[a0, t21] w R fun t22 w =>
  opv ((convert 21 9 t22).run Tryd.prog w) R fun t23 w =>
  R (.returned t23) w)))
theorem F34.eq (R : Ending → World → Prop) (w : World) (a0 a1 : Value) : F34 R w a0 a1 = shF Tryd.prog 34 [0,1,3,4,6,8,18] [a0, a1] R w := by kernel_rfl
theorem F34.calls {R : Ending → World → Prop} {w : World} {a0 a1 : Value} (h : F34 R w a0 a1) : Calls Tryd.prog 34 #[a0, a1] w R := shF_sound (F34.eq R w a0 a1 ▸ h)

/-- greenscreen/addr.Encode -/
def F35 (R : Ending → World → Prop) (w : World) (a0 a1 : Value) : Prop :=
  opv ((Instr.alloc 85 true (.tuple #[])).run Tryd.prog w) R fun t4 w =>
  opv ((binOp .lss 3 a1 (.int .i64 1)).run Tryd.prog w) R fun t8 w =>
  gd t8 false (fun K => K a1 w) w fun t10 w =>
  gd t8 false (fun K => opv ((binOp .gtr 3 t10 (.int .i64 16384)).run Tryd.prog w) R K) w fun t11 w =>
  pick t8 (.bool true) t11 w fun t12 w =>
  gd t12 false (fun K => K a0 w) w fun t14 w =>
  gd t12 false (fun K => opv ((binOp .lss 3 t14 (.int .i64 0)).run Tryd.prog w) R K) w fun t15 w =>
  pick t12 (.bool true) t15 w fun t16 w =>
  gd t16 false (fun K => K a0 w) w fun t18 w =>
  gd t16 false (fun K => K a1 w) w fun t19 w =>
  gd t16 false (fun K => opv ((binOp .geq 3 t18 t19).run Tryd.prog w) R K) w fun t20 w =>
  pick t16 (.bool true) t20 w fun t21 w =>
  cond t21 (opv ((Instr.build 85 #[]).run Tryd.prog w) R fun t22 w =>
  opu ((Instr.storeAt 85 t4 t22).run Tryd.prog w) R fun _ w =>
  ldv ((Instr.loadAt 85 t4).run Tryd.prog w) w fun r0 =>
  R (.returned (.tuple #[r0, (.int .i64 1)])) w)
  (opv ((binOp .gtr 3 a1 (.int .i64 4096)).run Tryd.prog w) R fun t25 w =>
  cond t25 (opv ((binOp .shr 3 a0 (.int .u64 8)).run Tryd.prog w) R fun t27 w =>
  opv ((convert 3 5 t27).run Tryd.prog w) R fun t28 w =>
  opv ((convert 3 5 a0).run Tryd.prog w) R fun t30 w =>
  opv ((Instr.build 85 #[(0, t28), (1, t30)]).run Tryd.prog w) R fun t31 w =>
  opu ((Instr.storeAt 85 t4 t31).run Tryd.prog w) R fun _ w =>
  ldv ((Instr.loadAt 85 t4).run Tryd.prog w) w fun r0 =>
  R (.returned (.tuple #[r0, (.int .i64 0)])) w)
  (opv ((binOp .shr 3 a0 (.int .u64 6)).run Tryd.prog w) R fun t33 w =>
  callF Tryd.prog 56 #[t33] w R fun t34 w =>
  callF Tryd.prog 56 #[a0] w R fun t36 w =>
  opv ((Instr.build 85 #[(0, t34), (1, t36)]).run Tryd.prog w) R fun t37 w =>
  opu ((Instr.storeAt 85 t4 t37).run Tryd.prog w) R fun _ w =>
  ldv ((Instr.loadAt 85 t4).run Tryd.prog w) w fun r0 =>
  R (.returned (.tuple #[r0, (.int .i64 0)])) w))
theorem F35.eq (R : Ending → World → Prop) (w : World) (a0 a1 : Value) : F35 R w a0 a1 = shF Tryd.prog 35 [0,1,4,5,6,23] [a0, a1] R w := by kernel_rfl
theorem F35.calls {R : Ending → World → Prop} {w : World} {a0 a1 : Value} (h : F35 R w a0 a1) : Calls Tryd.prog 35 #[a0, a1] w R := shF_sound (F35.eq R w a0 a1 ▸ h)

/-- greenscreen/grammar.item -/
def F36 (R : Ending → World → Prop) (w : World) (a0 a1 a2 : Value) : Prop :=
  opv ((Instr.box 55 a0).run Tryd.prog w) R fun t3 w =>
  join (upd (upd (upd (upd (ini [a0, a1, a2]) 3 t3) 6 (.slice none 0 0)) 7 (.int .i64 0)) 8 (.slice none 0 0)) (fun j1 =>
  opv ((Instr.fieldAt 55 t3 0).run Tryd.prog w) R fun t13 w =>
  opv ((Instr.loadAt 3 t13).run Tryd.prog w) R fun t14 w =>
  opv ((binE true .neq 3 t14 (.int .i64 (-1))).run Tryd.prog w) R fun t15 w =>
  gd t15 false (fun K => K a1 w) w fun t17 w =>
  gd t15 false (fun K => opv ((Op.unary .not t17).run Tryd.prog w) R K) w fun t18 w =>
  pick t15 (.bool true) t18 w fun t19 w =>
  cond t19 (opv ((Instr.fieldAt 55 t3 0).run Tryd.prog w) R fun t21 w =>
  opv ((Instr.loadAt 3 t21).run Tryd.prog w) R fun t22 w =>
  callF Tryd.prog 35 #[t22, a2] w R fun t24 w =>
  opv ((Instr.extract t24 0).run Tryd.prog w) R fun t25 w =>
  opv ((Instr.extract t24 1).run Tryd.prog w) R fun t26 w =>
  opv ((Instr.alloc 85 true (.tuple #[])).run Tryd.prog w) R fun t9 w =>
  opu ((Instr.storeAt 85 t9 t25).run Tryd.prog w) R fun _ w =>
  opv ((binE true .neq 27 t26 (.int .i64 0)).run Tryd.prog w) R fun t28 w =>
  cond t28 (R (.returned (.tuple #[(.slice none 0 0), (.int .i64 32)])) w)
  (opv ((Instr.indexAt 85 t9 (.int .i64 0)).run Tryd.prog w) R fun t30 w =>
  opv ((Instr.loadAt 5 t30).run Tryd.prog w) R fun t31 w =>
  opv ((Instr.indexAt 85 t9 (.int .i64 1)).run Tryd.prog w) R fun t32 w =>
  opv ((Instr.loadAt 5 t32).run Tryd.prog w) R fun t33 w =>
  opv ((Instr.buildSlice 22 3 #[(0, (.int .u8 17)), (1, t31), (2, t33)]).run Tryd.prog w) R fun t34 w =>
  opv ((Builtin.append_ #[22, 22] 22 #[(.slice none 0 0), t34]).run Tryd.prog w) R fun t35 w =>
  j1 (upd (upd (upd (upd (upd (upd (upd (upd (upd (ini [a0, a1, a2]) 3 t3) 6 (.slice none 0 0)) 7 (.int .i64 0)) 8 (.slice none 0 0)) 19 t19) 9 t9) 10 t26) 28 t28) 8 t35) w))
  (j1 (upd (upd (upd (upd (upd (ini [a0, a1, a2]) 3 t3) 6 (.slice none 0 0)) 7 (.int .i64 0)) 8 (.slice none 0 0)) 19 t19) w)) fun e1 g1 w =>
  join (mix [19,9,10,28,6,7,8] g1 e1) (fun j2 =>
  opv ((Instr.fieldAt 55 t3 1).run Tryd.prog w) R fun t36 w =>
  opv ((Instr.loadAt 35 t36).run Tryd.prog w) R fun t37 w =>
  opv ((Builtin.len_ #[35] 3 #[t37]).run Tryd.prog w) R fun t38 w =>
  loop (upd (upd (upd (mix [19,9,10,28,6,7,8] g1 e1) 37 t37) 38 t38) 39 (.int .i64 0)) w fun e3 g3 w j3 =>
  opv ((binOp .lss 3 (g3 39) t38).run Tryd.prog w) R fun t40 w =>
  cond t40 (opv ((Instr.indexAt 35 t37 (g3 39)).run Tryd.prog w) R fun t41 w =>
  opv ((Instr.loadAt 59 t41).run Tryd.prog w) R fun t42 w =>
  opv ((Instr.alloc 59 true (.tuple #[])).run Tryd.prog w) R fun t12 w =>
  opu ((Instr.storeAt 59 t12 t42).run Tryd.prog w) R fun _ w =>
  opv ((Instr.loadAt 59 t12).run Tryd.prog w) R fun t43 w =>
  callF Tryd.prog 57 #[t43] w R fun t44 w =>
  opv ((Op.unary .not t44).run Tryd.prog w) R fun t45 w =>
  cond t45 (R (.returned (.tuple #[(.slice none 0 0), (.int .i64 21)])) w)
  (join (upd (upd (upd (mix [40,12,45,6,7,47,8,39] g3 e3) 40 t40) 12 t12) 45 t45) (fun j4 =>
  opv ((Instr.fieldAt 59 t12 1).run Tryd.prog w) R fun t46 w =>
  opv ((Instr.loadAt 4 t46).run Tryd.prog w) R fun t47 w =>
  cond t47 (opv ((Instr.buildSlice 22 1 #[(0, (.int .u8 8))]).run Tryd.prog w) R fun t49 w =>
  opv ((Builtin.append_ #[22, 22] 22 #[(g3 8), t49]).run Tryd.prog w) R fun t50 w =>
  j4 (upd (upd (upd (upd (upd (mix [40,12,45,6,7,47,8,39] g3 e3) 40 t40) 12 t12) 45 t45) 47 t47) 8 t50) w)
  (j4 (upd (upd (upd (upd (mix [40,12,45,6,7,47,8,39] g3 e3) 40 t40) 12 t12) 45 t45) 47 t47) w)) fun e4 g4 w =>
  opv ((Instr.fieldAt 59 t12 0).run Tryd.prog w) R fun t52 w =>
  opv ((Instr.loadAt 5 t52).run Tryd.prog w) R fun t53 w =>
  opv ((Instr.buildSlice 22 1 #[(0, t53)]).run Tryd.prog w) R fun t54 w =>
  opv ((Builtin.append_ #[22, 22] 22 #[(g4 8), t54]).run Tryd.prog w) R fun t55 w =>
  opv ((binOp .add 3 (g3 39) (.int .i64 1)).run Tryd.prog w) R fun t56 w =>
  j3 (upd (upd (mix [47,8] g4 e4) 8 t55) 39 t56) w))
  (j2 (upd (mix [40,12,45,6,7,47,8,39] g3 e3) 40 t40) w)) fun e2 g2 w =>
  R (.returned (.tuple #[(g2 8), (.int .i64 0)])) w
theorem F36.eq (R : Ending → World → Prop) (w : World) (a0 a1 a2 : Value) : F36 R w a0 a1 a2 = shF Tryd.prog 36 [0,1,2,3,6,7,8,9,10,12,19,28,37,38,39,40,45,47] [a0, a1, a2] R w := by kernel_rfl
theorem F36.calls {R : Ending → World → Prop} {w : World} {a0 a1 a2 : Value} (h : F36 R w a0 a1 a2) : Calls Tryd.prog 36 #[a0, a1, a2] w R := shF_sound (F36.eq R w a0 a1 a2 ▸ h)

/-- greenscreen/greenscreenref02.Encode -/
def F37 (R : Ending → World → Prop) (w : World) (a0 a1 : Value) : Prop :=
  opv ((Instr.alloc 85 true (.tuple #[])).run Tryd.prog w) R fun t4 w =>
  opv ((binOp .lss 3 a1 (.int .i64 1)).run Tryd.prog w) R fun t7 w =>
  gd t7 false (fun K => K a1 w) w fun t9 w =>
  gd t7 false (fun K => opv ((binOp .gtr 3 t9 (.int .i64 16384)).run Tryd.prog w) R K) w fun t10 w =>
  pick t7 (.bool true) t10 w fun t11 w =>
  gd t11 false (fun K => K a0 w) w fun t13 w =>
  gd t11 false (fun K => opv ((binOp .lss 3 t13 (.int .i64 0)).run Tryd.prog w) R K) w fun t14 w =>
  pick t11 (.bool true) t14 w fun t15 w =>
  gd t15 false (fun K => K a0 w) w fun t17 w =>
  gd t15 false (fun K => K a1 w) w fun t18 w =>
  gd t15 false (fun K => opv ((binOp .geq 3 t17 t18).run Tryd.prog w) R K) w fun t19 w =>
  pick t15 (.bool true) t19 w fun t20 w =>
  cond t20 (opv ((Instr.build 85 #[]).run Tryd.prog w) R fun t21 w =>
  opu ((Instr.storeAt 85 t4 t21).run Tryd.prog w) R fun _ w =>
  ldv ((Instr.loadAt 85 t4).run Tryd.prog w) w fun r0 =>
  R (.returned (.tuple #[r0, (.int .i64 1)])) w)
  (opv ((binOp .gtr 3 a1 (.int .i64 4096)).run Tryd.prog w) R fun t23 w =>
  cond t23 (opv ((binOp .quo 3 a0 (.int .i64 256)).run Tryd.prog w) R fun t25 w =>
  opv ((convert 3 5 t25).run Tryd.prog w) R fun t26 w =>
  opv ((binOp .rem 3 a0 (.int .i64 256)).run Tryd.prog w) R fun t28 w =>
  opv ((convert 3 5 t28).run Tryd.prog w) R fun t29 w =>
  opv ((Instr.build 85 #[(0, t26), (1, t29)]).run Tryd.prog w) R fun t30 w =>
  opu ((Instr.storeAt 85 t4 t30).run Tryd.prog w) R fun _ w =>
  ldv ((Instr.loadAt 85 t4).run Tryd.prog w) w fun r0 =>
  R (.returned (.tuple #[r0, (.int .i64 0)])) w)
  (opv ((binOp .quo 3 a0 (.int .i64 64)).run Tryd.prog w) R fun t32 w =>
  callF Tryd.prog 58 #[t32] w R fun t33 w =>
  opv ((binOp .rem 3 a0 (.int .i64 64)).run Tryd.prog w) R fun t35 w =>
  callF Tryd.prog 58 #[t35] w R fun t36 w =>
  opv ((Instr.build 85 #[(0, t33), (1, t36)]).run Tryd.prog w) R fun t37 w =>
  opu ((Instr.storeAt 85 t4 t37).run Tryd.prog w) R fun _ w =>
  ldv ((Instr.loadAt 85 t4).run Tryd.prog w) w fun r0 =>
  R (.returned (.tuple #[r0, (.int .i64 0)])) w))
theorem F37.eq (R : Ending → World → Prop) (w : World) (a0 a1 : Value) : F37 R w a0 a1 = shF Tryd.prog 37 [0,1,4,5,20,23] [a0, a1] R w := by kernel_rfl
theorem F37.calls {R : Ending → World → Prop} {w : World} {a0 a1 : Value} (h : F37 R w a0 a1) : Calls Tryd.prog 37 #[a0, a1] w R := shF_sound (F37.eq R w a0 a1 ▸ h)

/-- greenscreen/greenscreenref12.Plain -/
def F38 (R : Ending → World → Prop) (w : World) (a0 : Value) : Prop :=
  opv ((binOp .geq 5 a0 (.int .u8 64)).run Tryd.prog w) R fun t6 w =>
  cond t6 (R (.returned (.bool true)) w)
  (opv ((Instr.buildSlice 22 8 #[(0, (.int .u8 0)), (1, (.int .u8 12)), (2, (.int .u8 13)), (3, (.int .u8 21)), (4, (.int .u8 25)), (5, (.int .u8 28)), (6, (.int .u8 30)), (7, (.int .u8 63))]).run Tryd.prog w) R fun t7 w =>
  join (upd (upd (upd (ini [a0]) 2 (.bool false)) 6 t6) 3 t7) (fun j1 =>
  loop (upd (upd (upd (upd (ini [a0]) 2 (.bool false)) 6 t6) 3 t7) 4 (.int .i64 0)) w fun e2 g2 w j2 =>
  opv ((Builtin.len_ #[22] 3 #[t7]).run Tryd.prog w) R fun t10 w =>
  opv ((binOp .lss 3 (g2 4) t10).run Tryd.prog w) R fun t11 w =>
  cond t11 (opv ((Instr.indexAt 22 t7 (g2 4)).run Tryd.prog w) R fun t16 w =>
  opv ((Instr.loadAt 5 t16).run Tryd.prog w) R fun t17 w =>
  opv ((binE false .eql 5 t17 a0).run Tryd.prog w) R fun t19 w =>
  cond t19 (R (.returned (.bool true)) w)
  (opv ((binOp .add 3 (g2 4) (.int .i64 1)).run Tryd.prog w) R fun t13 w =>
  j2 (upd (upd (upd (mix [11,19,2,4] g2 e2) 11 t11) 19 t19) 4 t13) w))
  (j1 (upd (mix [11,19,2,4] g2 e2) 11 t11) w)) fun e1 g1 w =>
  R (.returned (.bool false)) w)
theorem F38.eq (R : Ending → World → Prop) (w : World) (a0 : Value) : F38 R w a0 = shF Tryd.prog 38 [0,2,3,4,6,11,19] [a0] R w := by kernel_rfl
theorem F38.calls {R : Ending → World → Prop} {w : World} {a0 : Value} (h : F38 R w a0) : Calls Tryd.prog 38 #[a0] w R := shF_sound (F38.eq R w a0 ▸ h)

/-- greenscreen/grammar.Same$1 -/
def F39 (R : Ending → World → Prop) (w : World) (a0 a1 : Value) : Prop :=
  opv ((Instr.box 55 a0).run Tryd.prog w) R fun t2 w =>
  opv ((Instr.box 55 a1).run Tryd.prog w) R fun t3 w =>
  opv ((Instr.fieldAt 55 t2 0).run Tryd.prog w) R fun t5 w =>
  opv ((Instr.loadAt 3 t5).run Tryd.prog w) R fun t6 w =>
  opv ((Instr.fieldAt 55 t3 0).run Tryd.prog w) R fun t7 w =>
  opv ((Instr.loadAt 3 t7).run Tryd.prog w) R fun t8 w =>
  opv ((binE false .eql 3 t6 t8).run Tryd.prog w) R fun t9 w =>
  gd t9 true (fun K => opv ((Instr.fieldAt 55 t2 1).run Tryd.prog w) R K) w fun t11 w =>
  gd t9 true (fun K => opv ((Instr.loadAt 35 t11).run Tryd.prog w) R K) w fun t12 w =>
  gd t9 true (fun K => opv ((Instr.fieldAt 55 t3 1).run Tryd.prog w) R K) w fun t13 w =>
  gd t9 true (fun K => opv ((Instr.loadAt 35 t13).run Tryd.prog w) R K) w fun t14 w =>
  gd t9 true (fun K => callF Tryd.prog 40 #[t12, t14] w R K) w fun t15 w =>
  pick t9 t15 (.bool false) w fun t16 w =>
  R (.returned t16) w
theorem F39.eq (R : Ending → World → Prop) (w : World) (a0 a1 : Value) : F39 R w a0 a1 = shF Tryd.prog 39 [0,1,2,3,4] [a0, a1] R w := by kernel_rfl
theorem F39.calls {R : Ending → World → Prop} {w : World} {a0 a1 : Value} (h : F39 R w a0 a1) : Calls Tryd.prog 39 #[a0, a1] w R := shF_sound (F39.eq R w a0 a1 ▸ h)

/-- slices.Equal[[]greenscreen/api.Cell,greenscreen/api.Cell] -/
def F40 (R : Ending → World → Prop) (w : World) (a0 a1 : Value) : Prop :=
  opv ((Builtin.len_ #[35] 3 #[a0]).run Tryd.prog w) R fun t7 w =>
  opv ((Builtin.len_ #[35] 3 #[a1]).run Tryd.prog w) R fun t9 w =>
  opv ((binE false .neq 3 t7 t9).run Tryd.prog w) R fun t10 w =>
  cond t10 (R (.returned (.bool false)) w)
  (join (upd (upd (ini [a0, a1]) 4 (.bool false)) 10 t10) (fun j1 =>
  opv ((Builtin.len_ #[35] 3 #[a0]).run Tryd.prog w) R fun t12 w =>
  loop (upd (upd (upd (upd (ini [a0, a1]) 4 (.bool false)) 10 t10) 12 t12) 13 (.int .i64 0)) w fun e2 g2 w j2 =>
  opv ((binOp .lss 3 (g2 13) t12).run Tryd.prog w) R fun t14 w =>
  cond t14 (drawn w fun T w =>
  qop T w (fun w K => opv ((Instr.indexAt 35 a0 (g2 13)).run Tryd.prog w) noR K) fun t18 =>
  qop T w (fun w K => opv ((Instr.loadAt 59 t18).run Tryd.prog w) noR K) fun t19 =>
  qop T w (fun w K => opv ((Instr.indexAt 35 a1 (g2 13)).run Tryd.prog w) noR K) fun t22 =>
  qop T w (fun w K => opv ((Instr.loadAt 59 t22).run Tryd.prog w) noR K) fun t23 =>
  qop T w (fun w K => opv ((binE false .neq 59 t19 t23).run Tryd.prog w) noR K) fun t24 =>
  ext w fun w =>
  cond t24 (R (.returned (.bool false)) w)
  (opv ((binOp .add 3 (g2 13) (.int .i64 1)).run Tryd.prog w) R fun t25 w =>
  j2 (upd (upd (upd (upd (mix [14,5,24,4,13] g2 e2) 14 t14) 5 (g2 13)) 24 t24) 13 t25) w))
  (j1 (upd (mix [14,5,24,4,13] g2 e2) 14 t14) w)) fun e1 g1 w =>
  R (.returned (.bool true)) w)
theorem F40.eq (R : Ending → World → Prop) (w : World) (a0 a1 : Value) : F40 R w a0 a1 = shF Tryd.prog 40 [0,1,4,5,10,12,13,14,24] [a0, a1] R w := by kernel_rfl
theorem F40.calls {R : Ending → World → Prop} {w : World} {a0 a1 : Value} (h : F40 R w a0 a1) : Calls Tryd.prog 40 #[a0, a1] w R := shF_sound (F40.eq R w a0 a1 ▸ h)

/-- slices.EqualFunc[[]greenscreen/grammar.Item,[]greenscreen/grammar.Item,greenscreen/grammar.Item,greenscreen/grammar.Item] -/
def F41 (R : Ending → World → Prop) (w : World) (a0 a1 a2 : Value) : Prop :=
  opv ((Builtin.len_ #[24] 3 #[a0]).run Tryd.prog w) R fun t11 w =>
  opv ((Builtin.len_ #[24] 3 #[a1]).run Tryd.prog w) R fun t13 w =>
  opv ((binE false .neq 3 t11 t13).run Tryd.prog w) R fun t14 w =>
  cond t14 (R (.returned (.bool false)) w)
  (join (upd (upd (ini [a0, a1, a2]) 6 (.bool false)) 14 t14) (fun j1 =>
  opv ((Builtin.len_ #[24] 3 #[a0]).run Tryd.prog w) R fun t16 w =>
  loop (upd (upd (upd (upd (upd (ini [a0, a1, a2]) 6 (.bool false)) 14 t14) 15 a0) 16 t16) 17 (.int .i64 0)) w fun e2 g2 w j2 =>
  opv ((binOp .lss 3 (g2 17) t16).run Tryd.prog w) R fun t18 w =>
  cond t18 (opv ((Instr.indexAt 24 a0 (g2 17)).run Tryd.prog w) R fun t20 w =>
  opv ((Instr.loadAt 55 t20).run Tryd.prog w) R fun t21 w =>
  opv ((Instr.alloc 55 true (.tuple #[])).run Tryd.prog w) R fun t8 w =>
  opu ((Instr.storeAt 55 t8 t21).run Tryd.prog w) R fun _ w =>
  opv ((Instr.indexAt 24 a1 (g2 17)).run Tryd.prog w) R fun t24 w =>
  opv ((Instr.loadAt 55 t24).run Tryd.prog w) R fun t25 w =>
  opv ((Instr.alloc 55 true (.tuple #[])).run Tryd.prog w) R fun t9 w =>
  opu ((Instr.storeAt 55 t9 t25).run Tryd.prog w) R fun _ w =>
  opv ((Instr.loadAt 55 t8).run Tryd.prog w) R fun t27 w =>
  opv ((Instr.loadAt 55 t9).run Tryd.prog w) R fun t28 w =>
  callY Tryd.prog a2 #[t27, t28] w R fun t29 w =>
  opv ((Op.unary .not t29).run Tryd.prog w) R fun t30 w =>
  cond t30 (R (.returned (.bool false)) w)
  (opv ((binOp .add 3 (g2 17) (.int .i64 1)).run Tryd.prog w) R fun t31 w =>
  j2 (upd (upd (upd (upd (upd (upd (mix [18,8,7,9,30,6,17] g2 e2) 18 t18) 8 t8) 7 (g2 17)) 9 t9) 30 t30) 17 t31) w))
  (j1 (upd (mix [18,8,7,9,30,6,17] g2 e2) 18 t18) w)) fun e1 g1 w =>
  R (.returned (.bool true)) w)
theorem F41.eq (R : Ending → World → Prop) (w : World) (a0 a1 a2 : Value) : F41 R w a0 a1 a2 = shF Tryd.prog 41 [0,1,2,6,7,8,9,14,15,16,17,18,30] [a0, a1, a2] R w := by kernel_rfl
theorem F41.calls {R : Ending → World → Prop} {w : World} {a0 a1 a2 : Value} (h : F41 R w a0 a1 a2) : Calls Tryd.prog 41 #[a0, a1, a2] w R := shF_sound (F41.eq R w a0 a1 a2 ▸ h)

/-- (*greenscreen/grammar.reader).next -/
def F43 (R : Ending → World → Prop) (w : World) (a0 : Value) : Prop :=
  join (upd (ini [a0]) 2 (.int .u8 0)) (fun j1 =>
  nilck a0 w fun t5 w =>
  opv ((Instr.fieldAt 98 t5 0).run Tryd.prog w) R fun t6 w =>
  opv ((Instr.loadAt 22 t6).run Tryd.prog w) R fun t7 w =>
  opv ((Builtin.len_ #[22] 3 #[t7]).run Tryd.prog w) R fun t8 w =>
  opv ((binE true .eql 3 t8 (.int .i64 0)).run Tryd.prog w) R fun t9 w =>
  cond t9 (opv ((Instr.build 95 #[(0, (.int .i64 20))]).run Tryd.prog w) R fun t10 w =>
  opv ((Instr.makeInterface 95 t10).run Tryd.prog w) R fun t11 w =>
  opv ((Instr.panic t11).run Tryd.prog w) R fun _ w =>
  j1 (upd (upd (ini [a0]) 2 (.int .u8 0)) 9 t9) w)
  (j1 (upd (upd (ini [a0]) 2 (.int .u8 0)) 9 t9) w)) fun e1 g1 w =>
  nilck a0 w fun t13 w =>
  opv ((Instr.fieldAt 98 t13 0).run Tryd.prog w) R fun t14 w =>
  opv ((Instr.loadAt 22 t14).run Tryd.prog w) R fun t15 w =>
  opv ((Instr.indexAt 22 t15 (.int .i64 0)).run Tryd.prog w) R fun t16 w =>
  opv ((Instr.loadAt 5 t16).run Tryd.prog w) R fun t17 w =>
  nilck a0 w fun t20 w =>
  opv ((Instr.fieldAt 98 t20 0).run Tryd.prog w) R fun t21 w =>
  opv ((Instr.loadAt 22 t21).run Tryd.prog w) R fun t22 w =>
  opv ((Instr.sliceAt 22 t22 (some (.int .i64 1)) none none).run Tryd.prog w) R fun t23 w =>
  nilck a0 w fun t24 w =>
  opv ((Instr.fieldAt 98 t24 0).run Tryd.prog w) R fun t25 w =>
  opu ((Instr.storeAt 22 t25 t23).run Tryd.prog w) R fun _ w =>
  R (.returned t17) w
theorem F43.eq (R : Ending → World → Prop) (w : World) (a0 : Value) : F43 R w a0 = shF Tryd.prog 43 [0,2,3,9] [a0] R w := by kernel_rfl
theorem F43.calls {R : Ending → World → Prop} {w : World} {a0 : Value} (h : F43 R w a0) : Calls Tryd.prog 43 #[a0] w R := shF_sound (F43.eq R w a0 ▸ h)

/-- (*greenscreen/grammar.reader).place -/
def F44 (R : Ending → World → Prop) (w : World) (a0 : Value) : Prop :=
  callF Tryd.prog 43 #[a0] w R fun t5 w =>
  callF Tryd.prog 43 #[a0] w R fun t8 w =>
  callF Tryd.prog 59 #[t5, t8] w R fun t9 w =>
  R (.returned t9) w
theorem F44.eq (R : Ending → World → Prop) (w : World) (a0 : Value) : F44 R w a0 = shF Tryd.prog 44 [0,2,3] [a0] R w := by kernel_rfl
theorem F44.calls {R : Ending → World → Prop} {w : World} {a0 : Value} (h : F44 R w a0) : Calls Tryd.prog 44 #[a0] w R := shF_sound (F44.eq R w a0 ▸ h)

/-- (*greenscreen/grammar.reader).item -/
def F45 (R : Ending → World → Prop) (w : World) (a0 : Value) : Prop :=
  opv ((Instr.alloc 55 true (.tuple #[])).run Tryd.prog w) R fun t2 w =>
  join (upd (upd (ini [a0]) 2 t2) 3 (.int .i64 (-1))) (fun j1 =>
  nilck a0 w fun t5 w =>
  opv ((Instr.fieldAt 98 t5 0).run Tryd.prog w) R fun t6 w =>
  opv ((Instr.loadAt 22 t6).run Tryd.prog w) R fun t7 w =>
  opv ((Instr.indexAt 22 t7 (.int .i64 0)).run Tryd.prog w) R fun t8 w =>
  opv ((Instr.loadAt 5 t8).run Tryd.prog w) R fun t9 w =>
  opv ((binE true .eql 5 t9 (.int .u8 17)).run Tryd.prog w) R fun t10 w =>
  cond t10 (callF Tryd.prog 43 #[a0] w R fun t12 w =>
  callF Tryd.prog 44 #[a0] w R fun t14 w =>
  j1 (upd (upd (upd (upd (ini [a0]) 2 t2) 3 (.int .i64 (-1))) 10 t10) 3 t14) w)
  (j1 (upd (upd (upd (ini [a0]) 2 t2) 3 (.int .i64 (-1))) 10 t10) w)) fun e1 g1 w =>
  callF Tryd.prog 60 #[a0] w R fun t17 w =>
  opv ((Instr.build 55 #[(0, (g1 3)), (1, t17)]).run Tryd.prog w) R fun t18 w =>
  opu ((Instr.storeAt 55 t2 t18).run Tryd.prog w) R fun _ w =>
  ldv ((Instr.loadAt 55 t2).run Tryd.prog w) w fun r0 =>
  R (.returned r0) w
theorem F45.eq (R : Ending → World → Prop) (w : World) (a0 : Value) : F45 R w a0 = shF Tryd.prog 45 [0,2,3,10] [a0] R w := by kernel_rfl
theorem F45.calls {R : Ending → World → Prop} {w : World} {a0 : Value} (h : F45 R w a0) : Calls Tryd.prog 45 #[a0] w R := shF_sound (F45.eq R w a0 ▸ h)

/-- (*greenscreen/grammar.reader).cell -/
def F47 (R : Ending → World → Prop) (w : World) (a0 : Value) : Prop :=
  opv ((Instr.alloc 59 true (.tuple #[])).run Tryd.prog w) R fun t2 w =>
  callF Tryd.prog 43 #[a0] w R fun t5 w =>
  callF Tryd.prog 61 #[t5] w R fun t7 w =>
  cond t7 (opv ((Instr.build 59 #[(0, t5)]).run Tryd.prog w) R fun t9 w =>
  opu ((Instr.storeAt 59 t2 t9).run Tryd.prog w) R fun _ w =>
  ldv ((Instr.loadAt 59 t2).run Tryd.prog w) w fun r0 =>
  R (.returned r0) w)
  (join (upd (upd (upd (ini [a0]) 2 t2) 3 t5) 7 t7) (fun j1 =>
  opv ((binE true .neq 5 t5 (.int .u8 8)).run Tryd.prog w) R fun t11 w =>
  cond t11 (opv ((Instr.build 95 #[(0, (.int .i64 21))]).run Tryd.prog w) R fun t12 w =>
  opv ((Instr.makeInterface 95 t12).run Tryd.prog w) R fun t13 w =>
  opv ((Instr.panic t13).run Tryd.prog w) R fun _ w =>
  j1 (upd (upd (upd (upd (ini [a0]) 2 t2) 3 t5) 7 t7) 11 t11) w)
  (j1 (upd (upd (upd (upd (ini [a0]) 2 t2) 3 t5) 7 t7) 11 t11) w)) fun e1 g1 w =>
  join (mix [11] g1 e1) (fun j2 =>
  callF Tryd.prog 43 #[a0] w R fun t15 w =>
  opv ((binOp .lss 5 t15 (.int .u8 64)).run Tryd.prog w) R fun t17 w =>
  cond t17 (opv ((Instr.build 95 #[(0, (.int .i64 21))]).run Tryd.prog w) R fun t18 w =>
  opv ((Instr.makeInterface 95 t18).run Tryd.prog w) R fun t19 w =>
  opv ((Instr.panic t19).run Tryd.prog w) R fun _ w =>
  j2 (upd (upd (mix [11] g1 e1) 3 t15) 17 t17) w)
  (j2 (upd (upd (mix [11] g1 e1) 3 t15) 17 t17) w)) fun e2 g2 w =>
  opv ((Instr.build 59 #[(0, (g2 3)), (1, (.bool true))]).run Tryd.prog w) R fun t21 w =>
  opu ((Instr.storeAt 59 t2 t21).run Tryd.prog w) R fun _ w =>
  ldv ((Instr.loadAt 59 t2).run Tryd.prog w) w fun r0 =>
  R (.returned r0) w)
theorem F47.eq (R : Ending → World → Prop) (w : World) (a0 : Value) : F47 R w a0 = shF Tryd.prog 47 [0,2,3,7,11,17] [a0] R w := by kernel_rfl
theorem F47.calls {R : Ending → World → Prop} {w : World} {a0 : Value} (h : F47 R w a0) : Calls Tryd.prog 47 #[a0] w R := shF_sound (F47.eq R w a0 ▸ h)

/-- greenscreen/keyboard.Name -/
def F48 (R : Ending → World → Prop) (w : World) (a0 : Value) : Prop :=
  opv ((Instr.box 105 a0).run Tryd.prog w) R fun t1 w =>
  opv ((Instr.fieldAt 105 t1 0).run Tryd.prog w) R fun t4 w =>
  opv ((Instr.loadAt 3 t4).run Tryd.prog w) R fun t5 w =>
  opv ((binE true .eql 3 t5 (.int .i64 17)).run Tryd.prog w) R fun t6 w =>
  cond t6 (opv ((Instr.fieldAt 105 t1 1).run Tryd.prog w) R fun t7 w =>
  opv ((Instr.loadAt 5 t7).run Tryd.prog w) R fun t8 w =>
  callF Tryd.prog 62 #[t8] w R fun t9 w =>
  R (.returned t9) w)
  (opv ((Instr.fieldAt 105 t1 0).run Tryd.prog w) R fun t11 w =>
  opv ((Instr.loadAt 3 t11).run Tryd.prog w) R fun t12 w =>
  opv ((binOp .leq 3 t12 (.int .i64 1)).run Tryd.prog w) R fun t13 w =>
  gd t13 false (fun K => opv ((Instr.fieldAt 105 t1 0).run Tryd.prog w) R K) w fun t15 w =>
  gd t13 false (fun K => opv ((Instr.loadAt 3 t15).run Tryd.prog w) R K) w fun t16 w =>
  gd t13 false (fun K => opv ((binOp .gtr 3 t16 (.int .i64 17)).run Tryd.prog w) R K) w fun t17 w =>
  pick t13 (.bool true) t17 w fun t18 w =>
  cond t18 (R (.returned (.string ⟨#[]⟩)) w)
  (opv ((Instr.fieldAt 105 t1 0).run Tryd.prog w) R fun t19 w =>
  opv ((Instr.loadAt 3 t19).run Tryd.prog w) R fun t20 w =>
  opv ((Instr.indexAt 114 (.pointer (some ⟨0, 0, none⟩)) t20).run Tryd.prog w) R fun t21 w =>
  opv ((Instr.loadAt 9 t21).run Tryd.prog w) R fun t22 w =>
  R (.returned t22) w))
theorem F48.eq (R : Ending → World → Prop) (w : World) (a0 : Value) : F48 R w a0 = shF Tryd.prog 48 [0,1,2,3,10] [a0] R w := by kernel_rfl
theorem F48.calls {R : Ending → World → Prop} {w : World} {a0 : Value} (h : F48 R w a0) : Calls Tryd.prog 48 #[a0] w R := shF_sound (F48.eq R w a0 ▸ h)

/-- greenscreen/code.Graphic -/
def F51 (R : Ending → World → Prop) (w : World) (a0 : Value) : Prop :=
  opv ((binOp .geq 5 a0 (.int .u8 64)).run Tryd.prog w) R fun t4 w =>
  gd t4 true (fun K => K a0 w) w fun t6 w =>
  gd t4 true (fun K => opv ((binOp .leq 5 t6 (.int .u8 254)).run Tryd.prog w) R K) w fun t7 w =>
  pick t4 t7 (.bool false) w fun t8 w =>
  R (.returned t8) w
theorem F51.eq (R : Ending → World → Prop) (w : World) (a0 : Value) : F51 R w a0 = shF Tryd.prog 51 [0,2] [a0] R w := by kernel_rfl
theorem F51.calls {R : Ending → World → Prop} {w : World} {a0 : Value} (h : F51 R w a0) : Calls Tryd.prog 51 #[a0] w R := shF_sound (F51.eq R w a0 ▸ h)

/-- greenscreen/code.Special -/
def F52 (R : Ending → World → Prop) (w : World) (a0 : Value) : Prop :=
  opv ((convert 5 21 a0).run Tryd.prog w) R fun t4 w =>
  opv ((binOp .add 21 (.int .i32 57344) t4).run Tryd.prog w) R fun t5 w =>
  R (.returned t5) w
theorem F52.eq (R : Ending → World → Prop) (w : World) (a0 : Value) : F52 R w a0 = shF Tryd.prog 52 [0,2] [a0] R w := by kernel_rfl
theorem F52.calls {R : Ending → World → Prop} {w : World} {a0 : Value} (h : F52 R w a0) : Calls Tryd.prog 52 #[a0] w R := shF_sound (F52.eq R w a0 ▸ h)

/-- greenscreen/code.Sign -/
def F53 (R : Ending → World → Prop) (w : World) (a0 a1 : Value) : Prop :=
  join (upd (ini [a0, a1]) 4 (.int .i32 0)) (fun j1 =>
  callF Tryd.prog 65 #[a0] w R fun t8 w =>
  opv ((Builtin.len_ #[118] 3 #[t8]).run Tryd.prog w) R fun t9 w =>
  loop (upd (upd (upd (upd (ini [a0, a1]) 4 (.int .i32 0)) 8 t8) 9 t9) 10 (.int .i64 0)) w fun e2 g2 w j2 =>
  opv ((binOp .lss 3 (g2 10) t9).run Tryd.prog w) R fun t11 w =>
  cond t11 (opv ((Instr.indexAt 118 t8 (g2 10)).run Tryd.prog w) R fun t12 w =>
  opv ((Instr.loadAt 121 t12).run Tryd.prog w) R fun t13 w =>
  opv ((Instr.alloc 121 true (.tuple #[])).run Tryd.prog w) R fun t6 w =>
  opu ((Instr.storeAt 121 t6 t13).run Tryd.prog w) R fun _ w =>
  opv ((Instr.fieldAt 121 t6 0).run Tryd.prog w) R fun t14 w =>
  opv ((Instr.loadAt 5 t14).run Tryd.prog w) R fun t15 w =>
  opv ((binE false .eql 5 t15 a1).run Tryd.prog w) R fun t17 w =>
  cond t17 (opv ((Instr.fieldAt 121 t6 1).run Tryd.prog w) R fun t18 w =>
  opv ((Instr.loadAt 5 t18).run Tryd.prog w) R fun t19 w =>
  opv ((convert 5 21 t19).run Tryd.prog w) R fun t20 w =>
  R (.returned t20) w)
  (opv ((binOp .add 3 (g2 10) (.int .i64 1)).run Tryd.prog w) R fun t21 w =>
  j2 (upd (upd (upd (upd (mix [11,6,17,4,10] g2 e2) 11 t11) 6 t6) 17 t17) 10 t21) w))
  (j1 (upd (mix [11,6,17,4,10] g2 e2) 11 t11) w)) fun e1 g1 w =>
  callF Tryd.prog 66 #[] w R fun t22 w =>
  opv ((Instr.index 122 t22 a1).run Tryd.prog w) R fun t24 w =>
  opv ((convert 5 21 t24).run Tryd.prog w) R fun t25 w =>
  R (.returned t25) w
theorem F53.eq (R : Ending → World → Prop) (w : World) (a0 a1 : Value) : F53 R w a0 a1 = shF Tryd.prog 53 [0,1,4,6,8,9,10,11,17] [a0, a1] R w := by kernel_rfl
theorem F53.calls {R : Ending → World → Prop} {w : World} {a0 a1 : Value} (h : F53 R w a0 a1) : Calls Tryd.prog 53 #[a0, a1] w R := shF_sound (F53.eq R w a0 a1 ▸ h)

/-- greenscreen/greenscreenref01.Seen -/
def F54 (R : Ending → World → Prop) (w : World) (a0 : Value) : Prop :=
  opv ((binOp .geq 5 a0 (.int .u8 64)).run Tryd.prog w) R fun t4 w =>
  gd t4 true (fun K => K a0 w) w fun t6 w =>
  gd t4 true (fun K => opv ((binOp .leq 5 t6 (.int .u8 254)).run Tryd.prog w) R K) w fun t7 w =>
  pick t4 t7 (.bool false) w fun t8 w =>
  R (.returned t8) w
theorem F54.eq (R : Ending → World → Prop) (w : World) (a0 : Value) : F54 R w a0 = shF Tryd.prog 54 [0,2] [a0] R w := by kernel_rfl
theorem F54.calls {R : Ending → World → Prop} {w : World} {a0 : Value} (h : F54 R w a0) : Calls Tryd.prog 54 #[a0] w R := shF_sound (F54.eq R w a0 ▸ h)

/-- greenscreen/greenscreenref01.Sign -/
def F55 (R : Ending → World → Prop) (w : World) (a0 a1 : Value) : Prop :=
  opv ((Instr.buildSlice 22 0 #[]).run Tryd.prog w) R fun t9 w =>
  opv ((Instr.buildSlice 124 0 #[]).run Tryd.prog w) R fun t10 w =>
  join (upd (upd (upd (ini [a0, a1]) 4 (.int .i32 0)) 5 t9) 6 t10) (fun j1 =>
  opv ((binE true .eql 3 a0 (.int .i64 500)).run Tryd.prog w) R fun t12 w =>
  cond t12 (opv ((Instr.buildSlice 22 7 #[(0, (.int .u8 74)), (1, (.int .u8 79)), (2, (.int .u8 90)), (3, (.int .u8 95)), (4, (.int .u8 176)), (5, (.int .u8 186)), (6, (.int .u8 187))]).run Tryd.prog w) R fun t13 w =>
  opv ((Instr.buildSlice 124 7 #[(0, (.int .i32 91)), (1, (.int .i32 33)), (2, (.int .i32 93)), (3, (.int .i32 94)), (4, (.int .i32 162)), (5, (.int .i32 172)), (6, (.int .i32 124))]).run Tryd.prog w) R fun t14 w =>
  j1 (upd (upd (upd (upd (upd (upd (ini [a0, a1]) 4 (.int .i32 0)) 5 t9) 6 t10) 12 t12) 5 t13) 6 t14) w)
  (j1 (upd (upd (upd (upd (ini [a0, a1]) 4 (.int .i32 0)) 5 t9) 6 t10) 12 t12) w)) fun e1 g1 w =>
  join (mix [12,5,6] g1 e1) (fun j2 =>
  opv ((binE true .eql 3 a0 (.int .i64 1047)).run Tryd.prog w) R fun t16 w =>
  cond t16 (opv ((Instr.buildSlice 22 6 #[(0, (.int .u8 95)), (1, (.int .u8 173)), (2, (.int .u8 176)), (3, (.int .u8 186)), (4, (.int .u8 187)), (5, (.int .u8 189))]).run Tryd.prog w) R fun t17 w =>
  opv ((Instr.buildSlice 124 6 #[(0, (.int .i32 94)), (1, (.int .i32 91)), (2, (.int .i32 172)), (3, (.int .i32 221)), (4, (.int .i32 168)), (5, (.int .i32 93))]).run Tryd.prog w) R fun t18 w =>
  j2 (upd (upd (upd (mix [12,5,6] g1 e1) 16 t16) 5 t17) 6 t18) w)
  (j2 (upd (mix [12,5,6] g1 e1) 16 t16) w)) fun e2 g2 w =>
  join (mix [16,5,6] g2 e2) (fun j3 =>
  loop (upd (mix [16,5,6] g2 e2) 7 (.int .i64 0)) w fun e4 g4 w j4 =>
  opv ((Builtin.len_ #[22] 3 #[(g2 5)]).run Tryd.prog w) R fun t21 w =>
  opv ((binOp .lss 3 (g4 7) t21).run Tryd.prog w) R fun t22 w =>
  cond t22 (opv ((Instr.indexAt 22 (g2 5) (g4 7)).run Tryd.prog w) R fun t27 w =>
  opv ((Instr.loadAt 5 t27).run Tryd.prog w) R fun t28 w =>
  opv ((binE false .eql 5 t28 a1).run Tryd.prog w) R fun t30 w =>
  cond t30 (opv ((Instr.indexAt 124 (g2 6) (g4 7)).run Tryd.prog w) R fun t33 w =>
  opv ((Instr.loadAt 21 t33).run Tryd.prog w) R fun t34 w =>
  R (.returned t34) w)
  (opv ((binOp .add 3 (g4 7) (.int .i64 1)).run Tryd.prog w) R fun t24 w =>
  j4 (upd (upd (upd (mix [22,30,4,7] g4 e4) 22 t22) 30 t30) 7 t24) w))
  (j3 (upd (mix [22,30,4,7] g4 e4) 22 t22) w)) fun e3 g3 w =>
  callF Tryd.prog 67 #[] w R fun t35 w =>
  drawn w fun T w =>
  qop T w (fun w K => opv ((convert 5 3 a1).run Tryd.prog w) noR K) fun t38 =>
  qop T w (fun w K => opv ((binOp .mul 3 (.int .i64 2) t38).run Tryd.prog w) noR K) fun t39 =>
  qop T w (fun w K => opv ((Instr.index 9 t35 t39).run Tryd.prog w) noR K) fun t40 =>
  qop T w (fun w K => callF Tryd.prog 68 #[t40] w noR K) fun t41 =>
  qop T w (fun w K => opv ((binOp .mul 3 (.int .i64 16) t41).run Tryd.prog w) noR K) fun t42 =>
  qop T w (fun w K => opv ((convert 5 3 a1).run Tryd.prog w) noR K) fun t45 =>
  qop T w (fun w K => opv ((binOp .mul 3 (.int .i64 2) t45).run Tryd.prog w) noR K) fun t46 =>
  qop T w (fun w K => opv ((binOp .add 3 t46 (.int .i64 1)).run Tryd.prog w) noR K) fun t47 =>
  qop T w (fun w K => opv ((Instr.index 9 t35 t47).run Tryd.prog w) noR K) fun t48 =>
  qop T w (fun w K => callF Tryd.prog 68 #[t48] w noR K) fun t49 =>
  qop T w (fun w K => opv ((binOp .add 3 t42 t49).run Tryd.prog w) noR K) fun t50 =>
  qop T w (fun w K => opv ((convert 3 21 t50).run Tryd.prog w) noR K) fun t51 =>
  ext w fun w =>
  R (.returned t51) w
theorem F55.eq (R : Ending → World → Prop) (w : World) (a0 a1 : Value) : F55 R w a0 a1 = shF Tryd.prog 55 [0,1,4,5,6,7,8,12,16,22,30] [a0, a1] R w := by kernel_rfl
theorem F55.calls {R : Ending → World → Prop} {w : World} {a0 a1 : Value} (h : F55 R w a0 a1) : Calls Tryd.prog 55 #[a0, a1] w R := shF_sound (F55.eq R w a0 a1 ▸ h)

/-- greenscreen/addr.Digit -/
def F56 (R : Ending → World → Prop) (w : World) (a0 : Value) : Prop :=
  opv ((binOp .and 3 a0 (.int .i64 63)).run Tryd.prog w) R fun t5 w =>
  opv ((binOp .rem 3 t5 (.int .i64 16)).run Tryd.prog w) R fun t7 w =>
  opv ((binOp .geq 3 t7 (.int .i64 1)).run Tryd.prog w) R fun t9 w =>
  gd t9 true (fun K => K t7 w) w fun t11 w =>
  gd t9 true (fun K => opv ((binOp .leq 3 t11 (.int .i64 9)).run Tryd.prog w) R K) w fun t12 w =>
  pick t9 t12 (.bool false) w fun t13 w =>
  gd t13 true (fun K => K t5 w) w fun t15 w =>
  gd t13 true (fun K => opv ((binE true .neq 3 t15 (.int .i64 33)).run Tryd.prog w) R K) w fun t16 w =>
  pick t13 t16 (.bool false) w fun t17 w =>
  gd t17 false (fun K => K t5 w) w fun t19 w =>
  gd t17 false (fun K => opv ((binE true .eql 3 t19 (.int .i64 48)).run Tryd.prog w) R K) w fun t20 w =>
  pick t17 (.bool true) t20 w fun t21 w =>
  cond t21 (opv ((binOp .or 3 (.int .i64 192) t5).run Tryd.prog w) R fun t23 w =>
  opv ((convert 3 5 t23).run Tryd.prog w) R fun t24 w =>
  R (.returned t24) w)
  (opv ((binOp .or 3 (.int .i64 64) t5).run Tryd.prog w) R fun t26 w =>
  opv ((convert 3 5 t26).run Tryd.prog w) R fun t27 w =>
  R (.returned t27) w)
theorem F56.eq (R : Ending → World → Prop) (w : World) (a0 : Value) : F56 R w a0 = shF Tryd.prog 56 [0,2,3,21] [a0] R w := by kernel_rfl
theorem F56.calls {R : Ending → World → Prop} {w : World} {a0 : Value} (h : F56 R w a0) : Calls Tryd.prog 56 #[a0] w R := shF_sound (F56.eq R w a0 ▸ h)

/-- greenscreen/grammar.may -/
def F57 (R : Ending → World → Prop) (w : World) (a0 : Value) : Prop :=
  opv ((Instr.box 59 a0).run Tryd.prog w) R fun t1 w =>
  opv ((Instr.fieldAt 59 t1 0).run Tryd.prog w) R fun t4 w =>
  opv ((Instr.loadAt 5 t4).run Tryd.prog w) R fun t5 w =>
  opv ((Instr.fieldAt 59 t1 1).run Tryd.prog w) R fun t6 w =>
  opv ((Instr.loadAt 4 t6).run Tryd.prog w) R fun t7 w =>
  opv ((Instr.build 59 #[(0, t5), (1, t7)]).run Tryd.prog w) R fun t8 w =>
  opv ((Instr.alloc 59 true (.tuple #[])).run Tryd.prog w) R fun t3 w =>
  opu ((Instr.storeAt 59 t3 t8).run Tryd.prog w) R fun _ w =>
  opv ((Instr.loadAt 59 t1).run Tryd.prog w) R fun t9 w =>
  opv ((Instr.loadAt 59 t3).run Tryd.prog w) R fun t10 w =>
  opv ((binE false .eql 59 t9 t10).run Tryd.prog w) R fun t11 w =>
  gd t11 true (fun K => opv ((Instr.fieldAt 59 t1 1).run Tryd.prog w) R K) w fun t13 w =>
  gd t11 true (fun K => opv ((Instr.loadAt 4 t13).run Tryd.prog w) R K) w fun t14 w =>
  gd t11 true (fun K => K t14 w) w fun t15 w =>
  gd t15 true (fun K => opv ((Instr.fieldAt 59 t1 0).run Tryd.prog w) R K) w fun t16 w =>
  gd t15 true (fun K => opv ((Instr.loadAt 5 t16).run Tryd.prog w) R K) w fun t17 w =>
  gd t15 true (fun K => opv ((binOp .geq 5 t17 (.int .u8 64)).run Tryd.prog w) R K) w fun t18 w =>
  gd t11 true (fun K => pick t15 t18 (.bool false) w K) w fun t19 w =>
  gd t11 true (fun K => K t19 w) w fun t20 w =>
  gd t20 false (fun K => opv ((Instr.fieldAt 59 t1 1).run Tryd.prog w) R K) w fun t21 w =>
  gd t20 false (fun K => opv ((Instr.loadAt 4 t21).run Tryd.prog w) R K) w fun t22 w =>
  gd t20 false (fun K => opv ((Op.unary .not t22).run Tryd.prog w) R K) w fun t23 w =>
  gd t20 false (fun K => K t23 w) w fun t24 w =>
  gd t24 true (fun K => opv ((Instr.fieldAt 59 t1 0).run Tryd.prog w) R K) w fun t25 w =>
  gd t24 true (fun K => opv ((Instr.loadAt 5 t25).run Tryd.prog w) R K) w fun t26 w =>
  gd t24 true (fun K => callF Tryd.prog 61 #[t26] w R K) w fun t27 w =>
  gd t20 false (fun K => pick t24 t27 (.bool false) w K) w fun t28 w =>
  gd t11 true (fun K => pick t20 (.bool true) t28 w K) w fun t29 w =>
  pick t11 t29 (.bool false) w fun t30 w =>
  R (.returned t30) w
theorem F57.eq (R : Ending → World → Prop) (w : World) (a0 : Value) : F57 R w a0 = shF Tryd.prog 57 [0,1,2,3] [a0] R w := by kernel_rfl
theorem F57.calls {R : Ending → World → Prop} {w : World} {a0 : Value} (h : F57 R w a0) : Calls Tryd.prog 57 #[a0] w R := shF_sound (F57.eq R w a0 ▸ h)

/-- greenscreen/greenscreenref02.Digit -/
def F58 (R : Ending → World → Prop) (w : World) (a0 : Value) : Prop :=
  opv ((binOp .rem 3 a0 (.int .i64 16)).run Tryd.prog w) R fun t5 w =>
  opv ((binOp .geq 3 t5 (.int .i64 1)).run Tryd.prog w) R fun t7 w =>
  gd t7 true (fun K => K t5 w) w fun t9 w =>
  gd t7 true (fun K => opv ((binOp .leq 3 t9 (.int .i64 9)).run Tryd.prog w) R K) w fun t10 w =>
  pick t7 t10 (.bool false) w fun t11 w =>
  gd t11 true (fun K => K a0 w) w fun t13 w =>
  gd t11 true (fun K => opv ((binE true .neq 3 t13 (.int .i64 33)).run Tryd.prog w) R K) w fun t14 w =>
  pick t11 t14 (.bool false) w fun t15 w =>
  gd t15 false (fun K => K a0 w) w fun t17 w =>
  gd t15 false (fun K => opv ((binE true .eql 3 t17 (.int .i64 48)).run Tryd.prog w) R K) w fun t18 w =>
  pick t15 (.bool true) t18 w fun t19 w =>
  cond t19 (opv ((binOp .add 3 (.int .i64 192) a0).run Tryd.prog w) R fun t21 w =>
  opv ((convert 3 5 t21).run Tryd.prog w) R fun t22 w =>
  R (.returned t22) w)
  (opv ((binOp .add 3 (.int .i64 64) a0).run Tryd.prog w) R fun t24 w =>
  opv ((convert 3 5 t24).run Tryd.prog w) R fun t25 w =>
  R (.returned t25) w)
theorem F58.eq (R : Ending → World → Prop) (w : World) (a0 : Value) : F58 R w a0 = shF Tryd.prog 58 [0,2,3,19] [a0] R w := by kernel_rfl
theorem F58.calls {R : Ending → World → Prop} {w : World} {a0 : Value} (h : F58 R w a0) : Calls Tryd.prog 58 #[a0] w R := shF_sound (F58.eq R w a0 ▸ h)

/-- greenscreen/addr.Decode -/
def F59 (R : Ending → World → Prop) (w : World) (a0 a1 : Value) : Prop :=
  opv ((binOp .andNot 5 a0 (.int .u8 63)).run Tryd.prog w) R fun t6 w =>
  opv ((binE true .eql 5 t6 (.int .u8 0)).run Tryd.prog w) R fun t7 w =>
  cond t7 (opv ((convert 5 3 a0).run Tryd.prog w) R fun t9 w =>
  opv ((binOp .shl 3 t9 (.int .u64 8)).run Tryd.prog w) R fun t10 w =>
  opv ((convert 5 3 a1).run Tryd.prog w) R fun t12 w =>
  opv ((binOp .or 3 t10 t12).run Tryd.prog w) R fun t13 w =>
  R (.returned t13) w)
  (callF Tryd.prog 69 #[a0] w R fun t15 w =>
  opv ((binOp .shl 3 t15 (.int .u64 6)).run Tryd.prog w) R fun t16 w =>
  callF Tryd.prog 69 #[a1] w R fun t18 w =>
  opv ((binOp .or 3 t16 t18).run Tryd.prog w) R fun t19 w =>
  R (.returned t19) w)
theorem F59.eq (R : Ending → World → Prop) (w : World) (a0 a1 : Value) : F59 R w a0 a1 = shF Tryd.prog 59 [0,1,4,7] [a0, a1] R w := by kernel_rfl
theorem F59.calls {R : Ending → World → Prop} {w : World} {a0 a1 : Value} (h : F59 R w a0 a1) : Calls Tryd.prog 59 #[a0, a1] w R := shF_sound (F59.eq R w a0 a1 ▸ h)

/-- (*greenscreen/grammar.reader).cells -/
def F60 (R : Ending → World → Prop) (w : World) (a0 : Value) : Prop :=
  join (upd (upd (ini [a0]) 2 (.slice none 0 0)) 3 (.slice none 0 0)) (fun j1 =>
  loop (upd (upd (ini [a0]) 2 (.slice none 0 0)) 3 (.slice none 0 0)) w fun e2 g2 w j2 =>
  nilck a0 w fun t5 w =>
  opv ((Instr.fieldAt 98 t5 0).run Tryd.prog w) R fun t6 w =>
  opv ((Instr.loadAt 22 t6).run Tryd.prog w) R fun t7 w =>
  opv ((Builtin.len_ #[22] 3 #[t7]).run Tryd.prog w) R fun t8 w =>
  opv ((binOp .gtr 3 t8 (.int .i64 0)).run Tryd.prog w) R fun t9 w =>
  gd t9 true (fun K => K a0 w) w fun t11 w =>
  gd t9 true (fun K => nilck t11 w K) w fun t12 w =>
  gd t9 true (fun K => opv ((Instr.fieldAt 98 t12 0).run Tryd.prog w) R K) w fun t13 w =>
  gd t9 true (fun K => opv ((Instr.loadAt 22 t13).run Tryd.prog w) R K) w fun t14 w =>
  gd t9 true (fun K => opv ((Instr.indexAt 22 t14 (.int .i64 0)).run Tryd.prog w) R K) w fun t15 w =>
  gd t9 true (fun K => opv ((Instr.loadAt 5 t15).run Tryd.prog w) R K) w fun t16 w =>
  gd t9 true (fun K => opv ((binE true .neq 5 t16 (.int .u8 17)).run Tryd.prog w) R K) w fun t17 w =>
  pick t9 t17 (.bool false) w fun t18 w =>
  cond t18 (callF Tryd.prog 47 #[a0] w R fun t21 w =>
  opv ((Instr.buildSlice 35 1 #[(0, t21)]).run Tryd.prog w) R fun t22 w =>
  opv ((Builtin.append_ #[35, 35] 35 #[(g2 3), t22]).run Tryd.prog w) R fun t23 w =>
  j2 (upd (upd (mix [18,3] g2 e2) 18 t18) 3 t23) w)
  (j1 (upd (mix [18,3] g2 e2) 18 t18) w)) fun e1 g1 w =>
  R (.returned (g1 3)) w
theorem F60.eq (R : Ending → World → Prop) (w : World) (a0 : Value) : F60 R w a0 = shF Tryd.prog 60 [0,2,3,18] [a0] R w := by kernel_rfl
theorem F60.calls {R : Ending → World → Prop} {w : World} {a0 : Value} (h : F60 R w a0) : Calls Tryd.prog 60 #[a0] w R := shF_sound (F60.eq R w a0 ▸ h)

/-- greenscreen/order.Plain -/
def F61 (R : Ending → World → Prop) (w : World) (a0 : Value) : Prop :=
  join (upd (upd (ini [a0]) 2 (.bool false)) 3 a0) (fun j1 =>
  opv ((binE true .eql 5 a0 (.int .u8 0)).run Tryd.prog w) R fun t5 w =>
  cond t5 (j1 (upd (upd (upd (ini [a0]) 2 (.bool false)) 3 a0) 4 t5) w)
  (opv ((binE true .eql 5 a0 (.int .u8 12)).run Tryd.prog w) R fun t6 w =>
  cond t6 (j1 (upd (upd (upd (upd (ini [a0]) 2 (.bool false)) 3 a0) 4 t5) 4 t6) w)
  (opv ((binE true .eql 5 a0 (.int .u8 13)).run Tryd.prog w) R fun t7 w =>
  cond t7 (j1 (upd (upd (upd (upd (upd (ini [a0]) 2 (.bool false)) 3 a0) 4 t5) 4 t6) 4 t7) w)
  (opv ((binE true .eql 5 a0 (.int .u8 21)).run Tryd.prog w) R fun t8 w =>
  cond t8 (j1 (upd (upd (upd (upd (upd (upd (ini [a0]) 2 (.bool false)) 3 a0) 4 t5) 4 t6) 4 t7) 4 t8) w)
  (opv ((binE true .eql 5 a0 (.int .u8 25)).run Tryd.prog w) R fun t9 w =>
  cond t9 (j1 (upd (upd (upd (upd (upd (upd (upd (ini [a0]) 2 (.bool false)) 3 a0) 4 t5) 4 t6) 4 t7) 4 t8) 4 t9) w)
  (opv ((binE true .eql 5 a0 (.int .u8 28)).run Tryd.prog w) R fun t10 w =>
  cond t10 (j1 (upd (upd (upd (upd (upd (upd (upd (upd (ini [a0]) 2 (.bool false)) 3 a0) 4 t5) 4 t6) 4 t7) 4 t8) 4 t9) 4 t10) w)
  (opv ((binE true .eql 5 a0 (.int .u8 30)).run Tryd.prog w) R fun t11 w =>
  cond t11 (j1 (upd (upd (upd (upd (upd (upd (upd (upd (upd (ini [a0]) 2 (.bool false)) 3 a0) 4 t5) 4 t6) 4 t7) 4 t8) 4 t9) 4 t10) 4 t11) w)
  (opv ((binE true .eql 5 a0 (.int .u8 63)).run Tryd.prog w) R fun t12 w =>
  j1 (upd (upd (upd (upd (upd (upd (upd (upd (upd (upd (ini [a0]) 2 (.bool false)) 3 a0) 4 t5) 4 t6) 4 t7) 4 t8) 4 t9) 4 t10) 4 t11) 4 t12) w)))))))) fun e1 g1 w =>
  cond (g1 4) (R (.returned (.bool true)) w)
  (opv ((binOp .geq 5 a0 (.int .u8 64)).run Tryd.prog w) R fun t14 w =>
  R (.returned t14) w)
theorem F61.eq (R : Ending → World → Prop) (w : World) (a0 : Value) : F61 R w a0 = shF Tryd.prog 61 [0,2,3,4] [a0] R w := by kernel_rfl
theorem F61.calls {R : Ending → World → Prop} {w : World} {a0 : Value} (h : F61 R w a0) : Calls Tryd.prog 61 #[a0] w R := shF_sound (F61.eq R w a0 ▸ h)

/-- greenscreen/keyboard.attention -/
def F62 (R : Ending → World → Prop) (w : World) (a0 : Value) : Prop :=
  callF Tryd.prog 70 #[a0] w R fun t5 w =>
  opv ((binOp .gtr 3 t5 (.int .i64 0)).run Tryd.prog w) R fun t7 w =>
  cond t7 (callF Tryd.prog 30 #[t5] w R fun t9 w =>
  opv ((binOp .add 9 (.string ⟨#[80, 70]⟩) t9).run Tryd.prog w) R fun t10 w =>
  R (.returned t10) w)
  (callF Tryd.prog 71 #[a0] w R fun t12 w =>
  R (.returned t12) w)
theorem F62.eq (R : Ending → World → Prop) (w : World) (a0 : Value) : F62 R w a0 = shF Tryd.prog 62 [0,2,3,7] [a0] R w := by kernel_rfl
theorem F62.calls {R : Ending → World → Prop} {w : World} {a0 : Value} (h : F62 R w a0) : Calls Tryd.prog 62 #[a0] w R := shF_sound (F62.eq R w a0 ▸ h)

/-- greenscreen/code.swaps -/
def F65 (R : Ending → World → Prop) (w : World) (a0 : Value) : Prop :=
  opv ((binE true .eql 3 a0 (.int .i64 500)).run Tryd.prog w) R fun t5 w =>
  cond t5 (opv ((Instr.build 121 #[(0, (.int .u8 74)), (1, (.int .u8 91))]).run Tryd.prog w) R fun t6 w =>
  opv ((Instr.build 121 #[(0, (.int .u8 79)), (1, (.int .u8 33))]).run Tryd.prog w) R fun t7 w =>
  opv ((Instr.build 121 #[(0, (.int .u8 90)), (1, (.int .u8 93))]).run Tryd.prog w) R fun t8 w =>
  opv ((Instr.build 121 #[(0, (.int .u8 95)), (1, (.int .u8 94))]).run Tryd.prog w) R fun t9 w =>
  opv ((Instr.build 121 #[(0, (.int .u8 176)), (1, (.int .u8 162))]).run Tryd.prog w) R fun t10 w =>
  opv ((Instr.build 121 #[(0, (.int .u8 186)), (1, (.int .u8 172))]).run Tryd.prog w) R fun t11 w =>
  opv ((Instr.build 121 #[(0, (.int .u8 187)), (1, (.int .u8 124))]).run Tryd.prog w) R fun t12 w =>
  opv ((Instr.buildSlice 118 7 #[(0, t6), (1, t7), (2, t8), (3, t9), (4, t10), (5, t11), (6, t12)]).run Tryd.prog w) R fun t13 w =>
  R (.returned t13) w)
  (opv ((binE true .eql 3 a0 (.int .i64 1047)).run Tryd.prog w) R fun t15 w =>
  cond t15 (opv ((Instr.build 121 #[(0, (.int .u8 95)), (1, (.int .u8 94))]).run Tryd.prog w) R fun t16 w =>
  opv ((Instr.build 121 #[(0, (.int .u8 173)), (1, (.int .u8 91))]).run Tryd.prog w) R fun t17 w =>
  opv ((Instr.build 121 #[(0, (.int .u8 176)), (1, (.int .u8 172))]).run Tryd.prog w) R fun t18 w =>
  opv ((Instr.build 121 #[(0, (.int .u8 186)), (1, (.int .u8 221))]).run Tryd.prog w) R fun t19 w =>
  opv ((Instr.build 121 #[(0, (.int .u8 187)), (1, (.int .u8 168))]).run Tryd.prog w) R fun t20 w =>
  opv ((Instr.build 121 #[(0, (.int .u8 189)), (1, (.int .u8 93))]).run Tryd.prog w) R fun t21 w =>
  opv ((Instr.buildSlice 118 6 #[(0, t16), (1, t17), (2, t18), (3, t19), (4, t20), (5, t21)]).run Tryd.prog w) R fun t22 w =>
  R (.returned t22) w)
  (R (.returned (.slice none 0 0)) w))
theorem F65.eq (R : Ending → World → Prop) (w : World) (a0 : Value) : F65 R w a0 = shF Tryd.prog 65 [0,2,3,4,14] [a0] R w := by kernel_rfl
theorem F65.calls {R : Ending → World → Prop} {w : World} {a0 : Value} (h : F65 R w a0) : Calls Tryd.prog 65 #[a0] w R := shF_sound (F65.eq R w a0 ▸ h)

/-- greenscreen/greenscreenref01.list -/
def F67 (R : Ending → World → Prop) (w : World) : Prop :=
  R (.returned (.string ⟨#[48, 48, 48, 49, 48, 50, 48, 51, 57, 67, 48, 57, 56, 54, 55, 70, 57, 55, 56, 68, 56, 69, 48, 66, 48, 67, 48, 68, 48, 69, 48, 70, 49, 48, 49, 49, 49, 50, 49, 51, 57, 68, 56, 53, 48, 56, 56, 55, 49, 56, 49, 57, 57, 50, 56, 70, 49, 67, 49, 68, 49, 69, 49, 70, 56, 48, 56, 49, 56, 50, 56, 51, 56, 52, 48, 65, 49, 55, 49, 66, 56, 56, 56, 57, 56, 65, 56, 66, 56, 67, 48, 53, 48, 54, 48, 55, 57, 48, 57, 49, 49, 54, 57, 51, 57, 52, 57, 53, 57, 54, 48, 52, 57, 56, 57, 57, 57, 65, 57, 66, 49, 52, 49, 53, 57, 69, 49, 65, 50, 48, 65, 48, 69, 50, 69, 52, 69, 48, 69, 49, 69, 51, 69, 53, 69, 55, 70, 49, 65, 50, 50, 69, 51, 67, 50, 56, 50, 66, 55, 67, 50, 54, 69, 57, 69, 65, 69, 66, 69, 56, 69, 68, 69, 69, 69, 70, 69, 67, 68, 70, 50, 49, 50, 52, 50, 65, 50, 57, 51, 66, 65, 67, 50, 68, 50, 70, 67, 50, 67, 52, 67, 48, 67, 49, 67, 51, 67, 53, 67, 55, 68, 49, 65, 54, 50, 67, 50, 53, 53, 70, 51, 69, 51, 70, 70, 56, 67, 57, 67, 65, 67, 66, 67, 56, 67, 68, 67, 69, 67, 70, 67, 67, 54, 48, 51, 65, 50, 51, 52, 48, 50, 55, 51, 68, 50, 50, 68, 56, 54, 49, 54, 50, 54, 51, 54, 52, 54, 53, 54, 54, 54, 55, 54, 56, 54, 57, 65, 66, 66, 66, 70, 48, 70, 68, 70, 69, 66, 49, 66, 48, 54, 65, 54, 66, 54, 67, 54, 68, 54, 69, 54, 70, 55, 48, 55, 49, 55, 50, 65, 65, 66, 65, 69, 54, 66, 56, 67, 54, 65, 52, 66, 53, 55, 69, 55, 51, 55, 52, 55, 53, 55, 54, 55, 55, 55, 56, 55, 57, 55, 65, 65, 49, 66, 70, 68, 48, 68, 68, 68, 69, 65, 69, 53, 69, 65, 51, 65, 53, 66, 55, 65, 57, 65, 55, 66, 54, 66, 67, 66, 68, 66, 69, 53, 66, 53, 68, 65, 70, 65, 56, 66, 52, 68, 55, 55, 66, 52, 49, 52, 50, 52, 51, 52, 52, 52, 53, 52, 54, 52, 55, 52, 56, 52, 57, 65, 68, 70, 52, 70, 54, 70, 50, 70, 51, 70, 53, 55, 68, 52, 65, 52, 66, 52, 67, 52, 68, 52, 69, 52, 70, 53, 48, 53, 49, 53, 50, 66, 57, 70, 66, 70, 67, 70, 57, 70, 65, 70, 70, 53, 67, 70, 55, 53, 51, 53, 52, 53, 53, 53, 54, 53, 55, 53, 56, 53, 57, 53, 65, 66, 50, 68, 52, 68, 54, 68, 50, 68, 51, 68, 53, 51, 48, 51, 49, 51, 50, 51, 51, 51, 52, 51, 53, 51, 54, 51, 55, 51, 56, 51, 57, 66, 51, 68, 66, 68, 67, 68, 57, 68, 65, 57, 70]⟩)) w
theorem F67.eq (R : Ending → World → Prop) (w : World) : F67 R w  = shF Tryd.prog 67 [0] [] R w := by kernel_rfl
theorem F67.calls {R : Ending → World → Prop} {w : World} (h : F67 R w ) : Calls Tryd.prog 67 #[] w R := shF_sound (F67.eq R w  ▸ h)

/-- greenscreen/greenscreenref01.value -/
def F68 (R : Ending → World → Prop) (w : World) (a0 : Value) : Prop :=
  opv ((binOp .geq 5 a0 (.int .u8 65)).run Tryd.prog w) R fun t4 w =>
  cond t4 (opv ((convert 5 3 a0).run Tryd.prog w) R fun t6 w =>
  opv ((binOp .sub 3 t6 (.int .i64 55)).run Tryd.prog w) R fun t7 w =>
  R (.returned t7) w)
  (opv ((convert 5 3 a0).run Tryd.prog w) R fun t9 w =>
  opv ((binOp .sub 3 t9 (.int .i64 48)).run Tryd.prog w) R fun t10 w =>
  R (.returned t10) w)
theorem F68.eq (R : Ending → World → Prop) (w : World) (a0 : Value) : F68 R w a0 = shF Tryd.prog 68 [0,2,4] [a0] R w := by kernel_rfl
theorem F68.calls {R : Ending → World → Prop} {w : World} {a0 : Value} (h : F68 R w a0) : Calls Tryd.prog 68 #[a0] w R := shF_sound (F68.eq R w a0 ▸ h)

/-- greenscreen/addr.Value -/
def F69 (R : Ending → World → Prop) (w : World) (a0 : Value) : Prop :=
  opv ((binOp .and 5 a0 (.int .u8 63)).run Tryd.prog w) R fun t4 w =>
  opv ((convert 5 3 t4).run Tryd.prog w) R fun t5 w =>
  R (.returned t5) w
theorem F69.eq (R : Ending → World → Prop) (w : World) (a0 : Value) : F69 R w a0 = shF Tryd.prog 69 [0,2] [a0] R w := by kernel_rfl
theorem F69.calls {R : Ending → World → Prop} {w : World} {a0 : Value} (h : F69 R w a0) : Calls Tryd.prog 69 #[a0] w R := shF_sound (F69.eq R w a0 ▸ h)

/-- greenscreen/keyboard.function -/
def F70 (R : Ending → World → Prop) (w : World) (a0 : Value) : Prop :=
  join (upd (upd (ini [a0]) 2 (.int .i64 0)) 3 (.int .i64 0)) (fun j1 =>
  opv ((binOp .geq 5 a0 (.int .u8 241)).run Tryd.prog w) R fun t6 w =>
  gd t6 true (fun K => K a0 w) w fun t8 w =>
  gd t6 true (fun K => opv ((binOp .leq 5 t8 (.int .u8 249)).run Tryd.prog w) R K) w fun t9 w =>
  pick t6 t9 (.bool false) w fun t10 w =>
  cond t10 (opv ((binOp .sub 5 a0 (.int .u8 240)).run Tryd.prog w) R fun t12 w =>
  opv ((convert 5 3 t12).run Tryd.prog w) R fun t13 w =>
  j1 (upd (upd (upd (upd (ini [a0]) 2 (.int .i64 0)) 3 (.int .i64 0)) 4 t10) 3 t13) w)
  (opv ((binOp .geq 5 a0 (.int .u8 122)).run Tryd.prog w) R fun t16 w =>
  gd t16 true (fun K => K a0 w) w fun t18 w =>
  gd t16 true (fun K => opv ((binOp .leq 5 t18 (.int .u8 124)).run Tryd.prog w) R K) w fun t19 w =>
  pick t16 t19 (.bool false) w fun t20 w =>
  cond t20 (opv ((binOp .sub 5 a0 (.int .u8 122)).run Tryd.prog w) R fun t22 w =>
  opv ((convert 5 3 t22).run Tryd.prog w) R fun t23 w =>
  opv ((binOp .add 3 t23 (.int .i64 10)).run Tryd.prog w) R fun t24 w =>
  j1 (upd (upd (upd (upd (upd (ini [a0]) 2 (.int .i64 0)) 3 (.int .i64 0)) 4 t10) 14 t20) 3 t24) w)
  (opv ((binOp .geq 5 a0 (.int .u8 193)).run Tryd.prog w) R fun t27 w =>
  gd t27 true (fun K => K a0 w) w fun t29 w =>
  gd t27 true (fun K => opv ((binOp .leq 5 t29 (.int .u8 201)).run Tryd.prog w) R K) w fun t30 w =>
  pick t27 t30 (.bool false) w fun t31 w =>
  cond t31 (opv ((binOp .sub 5 a0 (.int .u8 192)).run Tryd.prog w) R fun t33 w =>
  opv ((convert 5 3 t33).run Tryd.prog w) R fun t34 w =>
  opv ((binOp .add 3 t34 (.int .i64 12)).run Tryd.prog w) R fun t35 w =>
  j1 (upd (upd (upd (upd (upd (upd (ini [a0]) 2 (.int .i64 0)) 3 (.int .i64 0)) 4 t10) 14 t20) 25 t31) 3 t35) w)
  (opv ((binOp .geq 5 a0 (.int .u8 74)).run Tryd.prog w) R fun t38 w =>
  gd t38 true (fun K => K a0 w) w fun t40 w =>
  gd t38 true (fun K => opv ((binOp .leq 5 t40 (.int .u8 76)).run Tryd.prog w) R K) w fun t41 w =>
  pick t38 t41 (.bool false) w fun t42 w =>
  cond t42 (opv ((binOp .sub 5 a0 (.int .u8 74)).run Tryd.prog w) R fun t44 w =>
  opv ((convert 5 3 t44).run Tryd.prog w) R fun t45 w =>
  opv ((binOp .add 3 t45 (.int .i64 22)).run Tryd.prog w) R fun t46 w =>
  j1 (upd (upd (upd (upd (upd (upd (upd (ini [a0]) 2 (.int .i64 0)) 3 (.int .i64 0)) 4 t10) 14 t20) 25 t31) 36 t42) 3 t46) w)
  (j1 (upd (upd (upd (upd (upd (upd (ini [a0]) 2 (.int .i64 0)) 3 (.int .i64 0)) 4 t10) 14 t20) 25 t31) 36 t42) w))))) fun e1 g1 w =>
  R (.returned (g1 3)) w
theorem F70.eq (R : Ending → World → Prop) (w : World) (a0 : Value) : F70 R w a0 = shF Tryd.prog 70 [0,2,3,4,14,25,36] [a0] R w := by kernel_rfl
theorem F70.calls {R : Ending → World → Prop} {w : World} {a0 : Value} (h : F70 R w a0) : Calls Tryd.prog 70 #[a0] w R := shF_sound (F70.eq R w a0 ▸ h)

/-- greenscreen/keyboard.plain -/
def F71 (R : Ending → World → Prop) (w : World) (a0 : Value) : Prop :=
  opv ((binE true .eql 5 a0 (.int .u8 125)).run Tryd.prog w) R fun t5 w =>
  cond t5 (R (.returned (.string ⟨#[69, 78, 84, 69, 82]⟩)) w)
  (opv ((binE true .eql 5 a0 (.int .u8 109)).run Tryd.prog w) R fun t7 w =>
  cond t7 (R (.returned (.string ⟨#[67, 76, 69, 65, 82]⟩)) w)
  (opv ((binE true .eql 5 a0 (.int .u8 108)).run Tryd.prog w) R fun t9 w =>
  cond t9 (R (.returned (.string ⟨#[80, 65, 49]⟩)) w)
  (opv ((binE true .eql 5 a0 (.int .u8 110)).run Tryd.prog w) R fun t11 w =>
  cond t11 (R (.returned (.string ⟨#[80, 65, 50]⟩)) w)
  (opv ((binE true .eql 5 a0 (.int .u8 107)).run Tryd.prog w) R fun t13 w =>
  cond t13 (R (.returned (.string ⟨#[80, 65, 51]⟩)) w)
  (R (.returned (.string ⟨#[]⟩)) w)))))
theorem F71.eq (R : Ending → World → Prop) (w : World) (a0 : Value) : F71 R w a0 = shF Tryd.prog 71 [0,2,3,4,6,8,10,12] [a0] R w := by kernel_rfl
theorem F71.calls {R : Ending → World → Prop} {w : World} {a0 : Value} (h : F71 R w a0) : Calls Tryd.prog 71 #[a0] w R := shF_sound (F71.eq R w a0 ▸ h)

end Go.Proofs.YtkjkmahpkfbbnaaDoor
