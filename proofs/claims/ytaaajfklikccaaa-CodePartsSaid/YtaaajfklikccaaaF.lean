/-
  Shallow forms of functions of the loaded program, each tied to it. No condition.
-/
import Derived.Test.YtaaajfklikccaaaProg
import Derived.Test.YtaaajfklikccaaaShSound
import Derived.KernelRfl
namespace Go.Proofs.Ytaaajfklikccaaa
open Go Go.Sh
set_option linter.unusedVariables false
set_option maxRecDepth 100000
/-- greenscreen/greenscreenlaw01.CodeSigns -/
def F3 (R : Ending → World → Prop) (w : World) (a0 a1 a2 : Value) : Prop :=
  callF Try.prog 9 #[] w R fun t13 w =>
  opv ((Op.unary .not t13).run Try.prog w) R fun t14 w =>
  cond t14 (R (.returned (.bool false)) w)
  (callF Try.prog 10 #[a0, a2] w R fun t18 w =>
  opv ((Instr.extract t18 0).run Try.prog w) R fun t19 w =>
  opv ((Instr.extract t18 1).run Try.prog w) R fun t20 w =>
  callF Try.prog 11 #[a0, a2] w R fun t24 w =>
  opv ((Instr.extract t24 0).run Try.prog w) R fun t25 w =>
  opv ((Instr.extract t24 1).run Try.prog w) R fun t26 w =>
  callF Try.prog 12 #[a0] w R fun t28 w =>
  opv ((Instr.alloc 25 true (.tuple #[])).run Try.prog w) R fun t11 w =>
  opu ((Instr.storeAt 25 t11 t28).run Try.prog w) R fun _ w =>
  join (upd (upd (upd (upd (upd (upd (upd (ini [a0, a1, a2]) 6 (.bool false)) 14 t14) 7 t19) 8 t20) 9 t25) 10 t26) 11 t11) (fun j1 =>
  loop (upd (upd (upd (upd (upd (upd (upd (upd (ini [a0, a1, a2]) 6 (.bool false)) 14 t14) 7 t19) 8 t20) 9 t25) 10 t26) 11 t11) 29 (.int .i64 0)) w fun e2 g2 w j2 =>
  opv ((binOp .lss 3 (g2 29) (.int .i64 256)).run Try.prog w) R fun t30 w =>
  cond t30 (drawn w fun T w =>
  qop T w (fun w K => opv ((Instr.indexAt 25 t11 (g2 29)).run Try.prog w) noR K) fun t33 =>
  qop T w (fun w K => opv ((Instr.loadAt 21 t33).run Try.prog w) noR K) fun t34 =>
  qop T w (fun w K => opv ((convert 3 5 (g2 29)).run Try.prog w) noR K) fun t37 =>
  qop T w (fun w K => callF Try.prog 13 #[a0, t37] w noR K) fun t38 =>
  qop T w (fun w K => opv ((binE false .neq 21 t34 t38).run Try.prog w) noR K) fun t39 =>
  ext w fun w =>
  cond t39 (R (.returned (.bool false)) w)
  (opv ((binOp .add 3 (g2 29) (.int .i64 1)).run Try.prog w) R fun t40 w =>
  j2 (upd (upd (upd (upd (mix [30,12,39,6,29] g2 e2) 30 t30) 12 (g2 29)) 39 t39) 29 t40) w))
  (j1 (upd (mix [30,12,39,6,29] g2 e2) 30 t30) w)) fun e1 g1 w =>
  callF Try.prog 14 #[a0, a1] w R fun t43 w =>
  callF Try.prog 13 #[a0, a1] w R fun t46 w =>
  opv ((binE false .eql 21 t43 t46).run Try.prog w) R fun t47 w =>
  gd t47 true (fun K => K t19 w) w fun t49 w =>
  gd t47 true (fun K => K t25 w) w fun t50 w =>
  gd t47 true (fun K => opv ((binE false .eql 5 t49 t50).run Try.prog w) R K) w fun t51 w =>
  pick t47 t51 (.bool false) w fun t52 w =>
  gd t52 true (fun K => K t20 w) w fun t54 w =>
  gd t52 true (fun K => K t26 w) w fun t55 w =>
  gd t52 true (fun K => opv ((binE false .eql 4 t54 t55).run Try.prog w) R K) w fun t56 w =>
  pick t52 t56 (.bool false) w fun t57 w =>
  gd t57 true (fun K => K a0 w) w fun t59 w =>
  gd t57 true (fun K => K a1 w) w fun t60 w =>
  gd t57 true (fun K => callF Try.prog 15 #[t59, t60] w R K) w fun t61 w =>
  gd t57 true (fun K => K a0 w) w fun t62 w =>
  gd t57 true (fun K => K a1 w) w fun t63 w =>
  gd t57 true (fun K => callF Try.prog 16 #[t62, t63] w R K) w fun t64 w =>
  gd t57 true (fun K => opv ((binE false .eql 5 t61 t64).run Try.prog w) R K) w fun t65 w =>
  pick t57 t65 (.bool false) w fun t66 w =>
  gd t66 true (fun K => K a1 w) w fun t68 w =>
  gd t66 true (fun K => callF Try.prog 17 #[t68] w R K) w fun t69 w =>
  gd t66 true (fun K => K a1 w) w fun t70 w =>
  gd t66 true (fun K => opv ((binOp .geq 5 t70 (.int .u8 240)).run Try.prog w) R K) w fun t71 w =>
  gd t66 true (fun K => K t71 w) w fun t72 w =>
  gd t72 true (fun K => K a1 w) w fun t73 w =>
  gd t72 true (fun K => opv ((binOp .leq 5 t73 (.int .u8 249)).run Try.prog w) R K) w fun t74 w =>
  gd t66 true (fun K => pick t72 t74 (.bool false) w K) w fun t75 w =>
  gd t66 true (fun K => opv ((binE false .eql 4 t69 t75).run Try.prog w) R K) w fun t76 w =>
  pick t66 t76 (.bool false) w fun t77 w =>
  gd t77 true (fun K => K a1 w) w fun t79 w =>
  gd t77 true (fun K => callF Try.prog 18 #[t79] w R K) w fun t80 w =>
  gd t77 true (fun K => K a1 w) w fun t81 w =>
  gd t77 true (fun K => callF Try.prog 19 #[t81] w R K) w fun t82 w =>
  gd t77 true (fun K => opv ((binE false .eql 4 t80 t82).run Try.prog w) R K) w fun t83 w =>
  pick t77 t83 (.bool false) w fun t84 w =>
  gd t84 true (fun K => K a1 w) w fun t86 w =>
  gd t84 true (fun K => callF Try.prog 20 #[t86] w R K) w fun t87 w =>
  gd t84 true (fun K => K a1 w) w fun t88 w =>
  gd t84 true (fun K => opv ((convert 5 21 t88).run Try.prog w) R K) w fun t89 w =>
  gd t84 true (fun K => opv ((binOp .add 21 (.int .i32 57344) t89).run Try.prog w) R K) w fun t90 w =>
  gd t84 true (fun K => opv ((binE false .eql 21 t87 t90).run Try.prog w) R K) w fun t91 w =>
  pick t84 t91 (.bool false) w fun t92 w =>
  R (.returned t92) w)
theorem F3.eq (R : Ending → World → Prop) (w : World) (a0 a1 a2 : Value) : F3 R w a0 a1 a2 = shF Try.prog 3 [0,1,2,6,7,8,9,10,11,12,14,29,30,39] [a0, a1, a2] R w := by kernel_rfl
theorem F3.calls {R : Ending → World → Prop} {w : World} {a0 a1 a2 : Value} (h : F3 R w a0 a1 a2) : Calls Try.prog 3 #[a0, a1, a2] w R := shF_sound (F3.eq R w a0 a1 a2 ▸ h)

/-- greenscreen/greenscreenlaw01.CodeTexts -/
def F4 (R : Ending → World → Prop) (w : World) (a0 a1 a2 : Value) : Prop :=
  callF Try.prog 9 #[] w R fun t11 w =>
  opv ((Op.unary .not t11).run Try.prog w) R fun t12 w =>
  cond t12 (R (.returned (.bool false)) w)
  (opv ((Builtin.len_ #[32] 3 #[a1]).run Try.prog w) R fun t14 w =>
  opv ((binOp .gtr 3 t14 (.int .i64 300)).run Try.prog w) R fun t15 w =>
  gd t15 false (fun K => K a2 w) w fun t17 w =>
  gd t15 false (fun K => opv ((Builtin.len_ #[9] 3 #[t17]).run Try.prog w) R K) w fun t18 w =>
  gd t15 false (fun K => opv ((binOp .gtr 3 t18 (.int .i64 300)).run Try.prog w) R K) w fun t19 w =>
  pick t15 (.bool true) t19 w fun t20 w =>
  cond t20 (R (.returned (.bool true)) w)
  (callF Try.prog 21 #[a0, a2] w R fun t24 w =>
  opv ((Instr.extract t24 0).run Try.prog w) R fun t25 w =>
  opv ((Instr.extract t24 1).run Try.prog w) R fun t26 w =>
  callF Try.prog 22 #[a0, a2] w R fun t30 w =>
  opv ((Instr.extract t30 0).run Try.prog w) R fun t31 w =>
  opv ((Instr.extract t30 1).run Try.prog w) R fun t32 w =>
  callF Try.prog 23 #[a0, a1] w R fun t35 w =>
  callF Try.prog 24 #[a0, a1] w R fun t38 w =>
  opv ((binE false .eql 9 t35 t38).run Try.prog w) R fun t39 w =>
  gd t39 true (fun K => K t26 w) w fun t41 w =>
  gd t39 true (fun K => K t32 w) w fun t42 w =>
  gd t39 true (fun K => opv ((binE false .eql 3 t41 t42).run Try.prog w) R K) w fun t43 w =>
  pick t39 t43 (.bool false) w fun t44 w =>
  gd t44 true (fun K => K t25 w) w fun t46 w =>
  gd t44 true (fun K => K t31 w) w fun t47 w =>
  gd t44 true (fun K => callF Try.prog 25 #[t46, t47] w R K) w fun t48 w =>
  pick t44 t48 (.bool false) w fun t49 w =>
  R (.returned t49) w))
theorem F4.eq (R : Ending → World → Prop) (w : World) (a0 a1 a2 : Value) : F4 R w a0 a1 a2 = shF Try.prog 4 [0,1,2,6,7,8,9,10,12,20] [a0, a1, a2] R w := by kernel_rfl
theorem F4.calls {R : Ending → World → Prop} {w : World} {a0 a1 a2 : Value} (h : F4 R w a0 a1 a2) : Calls Try.prog 4 #[a0, a1, a2] w R := shF_sound (F4.eq R w a0 a1 a2 ▸ h)

/-- greenscreen/greenscreenlaw01.CodeTurns -/
def F5 (R : Ending → World → Prop) (w : World) (a0 a1 a2 : Value) : Prop :=
  callF Try.prog 9 #[] w R fun t13 w =>
  opv ((Op.unary .not t13).run Try.prog w) R fun t14 w =>
  cond t14 (R (.returned (.bool false)) w)
  (callF Try.prog 14 #[a0, a1] w R fun t19 w =>
  callF Try.prog 10 #[a0, t19] w R fun t20 w =>
  opv ((Instr.extract t20 0).run Try.prog w) R fun t21 w =>
  opv ((Instr.extract t20 1).run Try.prog w) R fun t22 w =>
  opv ((binE false .neq 5 t21 a1).run Try.prog w) R fun t25 w =>
  gd t25 false (fun K => K t22 w) w fun t27 w =>
  gd t25 false (fun K => opv ((Op.unary .not t27).run Try.prog w) R K) w fun t28 w =>
  pick t25 (.bool true) t28 w fun t29 w =>
  gd t29 false (fun K => K a0 w) w fun t31 w =>
  gd t29 false (fun K => K a1 w) w fun t32 w =>
  gd t29 false (fun K => callF Try.prog 14 #[t31, t32] w R K) w fun t33 w =>
  gd t29 false (fun K => K a0 w) w fun t34 w =>
  gd t29 false (fun K => K a2 w) w fun t35 w =>
  gd t29 false (fun K => callF Try.prog 14 #[t34, t35] w R K) w fun t36 w =>
  gd t29 false (fun K => opv ((binE false .eql 21 t33 t36).run Try.prog w) R K) w fun t37 w =>
  gd t29 false (fun K => K a1 w) w fun t38 w =>
  gd t29 false (fun K => K a2 w) w fun t39 w =>
  gd t29 false (fun K => opv ((binE false .eql 5 t38 t39).run Try.prog w) R K) w fun t40 w =>
  gd t29 false (fun K => opv ((binE false .neq 4 t37 t40).run Try.prog w) R K) w fun t41 w =>
  pick t29 (.bool true) t41 w fun t42 w =>
  cond t42 (R (.returned (.bool false)) w)
  (callF Try.prog 12 #[a0] w R fun t44 w =>
  callF Try.prog 12 #[(.int .i64 37)] w R fun t45 w =>
  opv ((Instr.alloc 25 true (.tuple #[])).run Try.prog w) R fun t10 w =>
  opv ((Instr.alloc 25 true (.tuple #[])).run Try.prog w) R fun t11 w =>
  opu ((Instr.storeAt 25 t10 t44).run Try.prog w) R fun _ w =>
  opu ((Instr.storeAt 25 t11 t45).run Try.prog w) R fun _ w =>
  join (upd (upd (upd (upd (upd (upd (upd (upd (ini [a0, a1, a2]) 6 (.bool false)) 14 t14) 7 t21) 8 t22) 42 t42) 9 (.int .i64 0)) 10 t10) 11 t11) (fun j1 =>
  loop (upd (upd (upd (upd (upd (upd (upd (upd (upd (ini [a0, a1, a2]) 6 (.bool false)) 14 t14) 7 t21) 8 t22) 42 t42) 9 (.int .i64 0)) 10 t10) 11 t11) 46 (.int .i64 0)) w fun e2 g2 w j2 =>
  opv ((binOp .lss 3 (g2 46) (.int .i64 256)).run Try.prog w) R fun t47 w =>
  cond t47 (join (upd (upd (mix [47,12,55,9,67,6,46] g2 e2) 47 t47) 12 (g2 46)) (fun j3 =>
  drawn w fun T w =>
  qop T w (fun w K => opv ((Instr.indexAt 25 t10 (g2 46)).run Try.prog w) noR K) fun t50 =>
  qop T w (fun w K => opv ((Instr.loadAt 21 t50).run Try.prog w) noR K) fun t51 =>
  qop T w (fun w K => opv ((Instr.indexAt 25 t11 (g2 46)).run Try.prog w) noR K) fun t53 =>
  qop T w (fun w K => opv ((Instr.loadAt 21 t53).run Try.prog w) noR K) fun t54 =>
  qop T w (fun w K => opv ((binE false .neq 21 t51 t54).run Try.prog w) noR K) fun t55 =>
  ext w fun w =>
  cond t55 (opv ((binOp .add 3 (g2 9) (.int .i64 1)).run Try.prog w) R fun t57 w =>
  j3 (upd (upd (upd (upd (mix [47,12,55,9,67,6,46] g2 e2) 47 t47) 12 (g2 46)) 55 t55) 9 t57) w)
  (j3 (upd (upd (upd (mix [47,12,55,9,67,6,46] g2 e2) 47 t47) 12 (g2 46)) 55 t55) w)) fun e3 g3 w =>
  opv ((Instr.indexAt 25 t10 (g2 46)).run Try.prog w) R fun t59 w =>
  opv ((Instr.loadAt 21 t59).run Try.prog w) R fun t60 w =>
  opv ((binOp .lss 21 t60 (.int .i32 0)).run Try.prog w) R fun t61 w =>
  gd t61 false (fun K => K (g2 46) w) w fun t63 w =>
  gd t61 false (fun K => opv ((Instr.indexAt 25 t10 t63).run Try.prog w) R K) w fun t64 w =>
  gd t61 false (fun K => opv ((Instr.loadAt 21 t64).run Try.prog w) R K) w fun t65 w =>
  gd t61 false (fun K => opv ((binOp .gtr 21 t65 (.int .i32 255)).run Try.prog w) R K) w fun t66 w =>
  pick t61 (.bool true) t66 w fun t67 w =>
  cond t67 (R (.returned (.bool false)) w)
  (opv ((binOp .add 3 (g2 46) (.int .i64 1)).run Try.prog w) R fun t68 w =>
  j2 (upd (upd (mix [55,9] g3 e3) 67 t67) 46 t68) w))
  (j1 (upd (mix [47,12,55,9,67,6,46] g2 e2) 47 t47) w)) fun e1 g1 w =>
  opv ((binOp .leq 3 (g1 9) (.int .i64 7)).run Try.prog w) R fun t70 w =>
  gd t70 true (fun K => K a0 w) w fun t72 w =>
  gd t70 true (fun K => opv ((binE true .eql 3 t72 (.int .i64 500)).run Try.prog w) R K) w fun t73 w =>
  gd t70 true (fun K => K t73 w) w fun t74 w =>
  gd t74 false (fun K => K a0 w) w fun t75 w =>
  gd t74 false (fun K => opv ((binE true .eql 3 t75 (.int .i64 1047)).run Try.prog w) R K) w fun t76 w =>
  gd t70 true (fun K => pick t74 (.bool true) t76 w K) w fun t77 w =>
  gd t70 true (fun K => K (g1 9) w) w fun t78 w =>
  gd t70 true (fun K => opv ((binOp .gtr 3 t78 (.int .i64 0)).run Try.prog w) R K) w fun t79 w =>
  gd t70 true (fun K => opv ((binE false .eql 4 t77 t79).run Try.prog w) R K) w fun t80 w =>
  pick t70 t80 (.bool false) w fun t81 w =>
  R (.returned t81) w))
theorem F5.eq (R : Ending → World → Prop) (w : World) (a0 a1 a2 : Value) : F5 R w a0 a1 a2 = shF Try.prog 5 [0,1,2,6,7,8,9,10,11,12,14,42,46,47,55,67] [a0, a1, a2] R w := by kernel_rfl
theorem F5.calls {R : Ending → World → Prop} {w : World} {a0 a1 a2 : Value} (h : F5 R w a0 a1 a2) : Calls Try.prog 5 #[a0, a1, a2] w R := shF_sound (F5.eq R w a0 a1 a2 ▸ h)

/-- greenscreen/greenscreenlaw01.CodeBack -/
def F6 (R : Ending → World → Prop) (w : World) (a0 a1 a2 : Value) : Prop :=
  callF Try.prog 9 #[] w R fun t14 w =>
  opv ((Op.unary .not t14).run Try.prog w) R fun t15 w =>
  cond t15 (R (.returned (.bool false)) w)
  (opv ((Builtin.len_ #[32] 3 #[a1]).run Try.prog w) R fun t17 w =>
  opv ((binOp .gtr 3 t17 (.int .i64 300)).run Try.prog w) R fun t18 w =>
  gd t18 false (fun K => K a2 w) w fun t20 w =>
  gd t18 false (fun K => opv ((Builtin.len_ #[9] 3 #[t20]).run Try.prog w) R K) w fun t21 w =>
  gd t18 false (fun K => opv ((binOp .gtr 3 t21 (.int .i64 300)).run Try.prog w) R K) w fun t22 w =>
  pick t18 (.bool true) t22 w fun t23 w =>
  cond t23 (R (.returned (.bool true)) w)
  (opv ((Instr.buildSlice 32 0 #[]).run Try.prog w) R fun t24 w =>
  join (upd (upd (upd (upd (ini [a0, a1, a2]) 6 (.bool false)) 15 t15) 23 t23) 7 t24) (fun j1 =>
  opv ((Builtin.len_ #[32] 3 #[a1]).run Try.prog w) R fun t26 w =>
  loop (upd (upd (upd (upd (upd (upd (upd (ini [a0, a1, a2]) 6 (.bool false)) 15 t15) 23 t23) 7 t24) 25 a1) 26 t26) 27 (.int .i64 0)) w fun e2 g2 w j2 =>
  opv ((binOp .lss 3 (g2 27) t26).run Try.prog w) R fun t28 w =>
  cond t28 (join (upd (mix [28,9,32,7,27] g2 e2) 28 t28) (fun j3 =>
  opv ((Instr.indexAt 32 a1 (g2 27)).run Try.prog w) R fun t29 w =>
  opv ((Instr.loadAt 5 t29).run Try.prog w) R fun t30 w =>
  callF Try.prog 18 #[t30] w R fun t32 w =>
  cond t32 (opv ((Instr.buildSlice 32 1 #[(0, t30)]).run Try.prog w) R fun t35 w =>
  opv ((Builtin.append_ #[32, 32] 32 #[(g2 7), t35]).run Try.prog w) R fun t36 w =>
  j3 (upd (upd (upd (upd (mix [28,9,32,7,27] g2 e2) 28 t28) 9 t30) 32 t32) 7 t36) w)
  (j3 (upd (upd (upd (mix [28,9,32,7,27] g2 e2) 28 t28) 9 t30) 32 t32) w)) fun e3 g3 w =>
  opv ((binOp .add 3 (g2 27) (.int .i64 1)).run Try.prog w) R fun t37 w =>
  j2 (upd (mix [9,32,7] g3 e3) 27 t37) w)
  (j1 (upd (mix [28,9,32,7,27] g2 e2) 28 t28) w)) fun e1 g1 w =>
  callF Try.prog 23 #[a0, (g1 7)] w R fun t42 w =>
  callF Try.prog 21 #[a0, t42] w R fun t43 w =>
  opv ((Instr.extract t43 0).run Try.prog w) R fun t44 w =>
  opv ((Instr.extract t43 1).run Try.prog w) R fun t45 w =>
  opv ((binE true .neq 33 t45 (.int .i64 0)).run Try.prog w) R fun t47 w =>
  gd t47 false (fun K => K t44 w) w fun t49 w =>
  gd t47 false (fun K => K (g1 7) w) w fun t50 w =>
  gd t47 false (fun K => callF Try.prog 25 #[t49, t50] w R K) w fun t51 w =>
  gd t47 false (fun K => opv ((Op.unary .not t51).run Try.prog w) R K) w fun t52 w =>
  pick t47 (.bool true) t52 w fun t53 w =>
  cond t53 (R (.returned (.bool false)) w)
  (callF Try.prog 21 #[a0, a2] w R fun t57 w =>
  opv ((Instr.extract t57 0).run Try.prog w) R fun t58 w =>
  opv ((Instr.extract t57 1).run Try.prog w) R fun t59 w =>
  opv ((binE true .neq 33 t59 (.int .i64 0)).run Try.prog w) R fun t61 w =>
  gd t61 false (fun K => K a0 w) w fun t63 w =>
  gd t61 false (fun K => K t58 w) w fun t64 w =>
  gd t61 false (fun K => callF Try.prog 23 #[t63, t64] w R K) w fun t65 w =>
  gd t61 false (fun K => K a2 w) w fun t66 w =>
  gd t61 false (fun K => opv ((binE false .eql 9 t65 t66).run Try.prog w) R K) w fun t67 w =>
  pick t61 (.bool true) t67 w fun t68 w =>
  R (.returned t68) w)))
theorem F6.eq (R : Ending → World → Prop) (w : World) (a0 a1 a2 : Value) : F6 R w a0 a1 a2 = shF Try.prog 6 [0,1,2,6,7,9,10,11,12,13,15,23,25,26,27,28,32,53] [a0, a1, a2] R w := by kernel_rfl
theorem F6.calls {R : Ending → World → Prop} {w : World} {a0 a1 a2 : Value} (h : F6 R w a0 a1 a2) : Calls Try.prog 6 #[a0, a1, a2] w R := shF_sound (F6.eq R w a0 a1 a2 ▸ h)

/-- greenscreen/greenscreenlaw01.CodeUppers -/
def F7 (R : Ending → World → Prop) (w : World) (a0 a1 : Value) : Prop :=
  callF Try.prog 9 #[] w R fun t8 w =>
  opv ((Op.unary .not t8).run Try.prog w) R fun t9 w =>
  cond t9 (R (.returned (.bool false)) w)
  (callF Try.prog 15 #[a0, a1] w R fun t12 w =>
  callF Try.prog 14 #[a0, a1] w R fun t15 w =>
  callF Try.prog 14 #[a0, t12] w R fun t18 w =>
  opv ((binOp .geq 21 t15 (.int .i32 97)).run Try.prog w) R fun t20 w =>
  gd t20 true (fun K => K t15 w) w fun t22 w =>
  gd t20 true (fun K => opv ((binOp .leq 21 t22 (.int .i32 122)).run Try.prog w) R K) w fun t23 w =>
  pick t20 t23 (.bool false) w fun t24 w =>
  cond t24 (opv ((binOp .sub 21 t15 (.int .i32 32)).run Try.prog w) R fun t27 w =>
  opv ((binE false .eql 21 t18 t27).run Try.prog w) R fun t28 w =>
  gd t28 true (fun K => K a0 w) w fun t30 w =>
  gd t28 true (fun K => K t12 w) w fun t31 w =>
  gd t28 true (fun K => callF Try.prog 15 #[t30, t31] w R K) w fun t32 w =>
  gd t28 true (fun K => K t12 w) w fun t33 w =>
  gd t28 true (fun K => opv ((binE false .eql 5 t32 t33).run Try.prog w) R K) w fun t34 w =>
  pick t28 t34 (.bool false) w fun t35 w =>
  R (.returned t35) w)
  (opv ((binE false .eql 5 t12 a1).run Try.prog w) R fun t38 w =>
  R (.returned t38) w))
theorem F7.eq (R : Ending → World → Prop) (w : World) (a0 a1 : Value) : F7 R w a0 a1 = shF Try.prog 7 [0,1,4,5,6,7,9,24] [a0, a1] R w := by kernel_rfl
theorem F7.calls {R : Ending → World → Prop} {w : World} {a0 a1 : Value} (h : F7 R w a0 a1) : Calls Try.prog 7 #[a0, a1] w R := shF_sound (F7.eq R w a0 a1 ▸ h)

/-- greenscreen/greenscreenlaw01.CodeParts -/
def F8 (R : Ending → World → Prop) (w : World) (a0 a1 a2 a3 a4 : Value) : Prop :=
  callF Try.prog 9 #[] w R fun t18 w =>
  opv ((Op.unary .not t18).run Try.prog w) R fun t19 w =>
  cond t19 (R (.returned (.bool false)) w)
  (opv ((Builtin.len_ #[32] 3 #[a1]).run Try.prog w) R fun t21 w =>
  opv ((binOp .gtr 3 t21 (.int .i64 300)).run Try.prog w) R fun t22 w =>
  gd t22 false (fun K => K a2 w) w fun t24 w =>
  gd t22 false (fun K => opv ((Builtin.len_ #[32] 3 #[t24]).run Try.prog w) R K) w fun t25 w =>
  gd t22 false (fun K => opv ((binOp .gtr 3 t25 (.int .i64 300)).run Try.prog w) R K) w fun t26 w =>
  pick t22 (.bool true) t26 w fun t27 w =>
  gd t27 false (fun K => K a3 w) w fun t29 w =>
  gd t27 false (fun K => opv ((Builtin.len_ #[9] 3 #[t29]).run Try.prog w) R K) w fun t30 w =>
  gd t27 false (fun K => opv ((binOp .gtr 3 t30 (.int .i64 300)).run Try.prog w) R K) w fun t31 w =>
  pick t27 (.bool true) t31 w fun t32 w =>
  gd t32 false (fun K => K a4 w) w fun t34 w =>
  gd t32 false (fun K => opv ((Builtin.len_ #[9] 3 #[t34]).run Try.prog w) R K) w fun t35 w =>
  gd t32 false (fun K => opv ((binOp .gtr 3 t35 (.int .i64 300)).run Try.prog w) R K) w fun t36 w =>
  pick t32 (.bool true) t36 w fun t37 w =>
  cond t37 (R (.returned (.bool true)) w)
  (callF Try.prog 26 #[a1] w R fun t40 w =>
  opv ((Builtin.append_ #[32, 32] 32 #[t40, a2]).run Try.prog w) R fun t42 w =>
  callF Try.prog 23 #[a0, t42] w R fun t43 w =>
  callF Try.prog 23 #[a0, a1] w R fun t46 w =>
  callF Try.prog 23 #[a0, a2] w R fun t49 w =>
  opv ((binOp .add 9 t46 t49).run Try.prog w) R fun t50 w =>
  opv ((binE false .neq 9 t43 t50).run Try.prog w) R fun t51 w =>
  cond t51 (R (.returned (.bool false)) w)
  (join (upd (upd (upd (upd (upd (ini [a0, a1, a2, a3, a4]) 10 (.bool false)) 19 t19) 37 t37) 51 t51) 11 (.int .i64 0)) (fun j1 =>
  callF Try.prog 23 #[a0, a1] w R fun t54 w =>
  opv ((Instr.range 9 t54).run Try.prog w) R fun t55 w =>
  loop (upd (upd (upd (upd (upd (upd (ini [a0, a1, a2, a3, a4]) 10 (.bool false)) 19 t19) 37 t37) 51 t51) 11 (.int .i64 0)) 55 t55) w fun e2 g2 w j2 =>
  opv ((Instr.next t55 true 0).run Try.prog w) R fun t56 w =>
  opv ((Instr.extract t56 0).run Try.prog w) R fun t57 w =>
  cond t57 (opv ((binOp .add 3 (g2 11) (.int .i64 1)).run Try.prog w) R fun t59 w =>
  j2 (upd (upd (mix [57,11] g2 e2) 57 t57) 11 t59) w)
  (j1 (upd (mix [57,11] g2 e2) 57 t57) w)) fun e1 g1 w =>
  callF Try.prog 21 #[a0, a3] w R fun t63 w =>
  opv ((Instr.extract t63 0).run Try.prog w) R fun t64 w =>
  opv ((Instr.extract t63 1).run Try.prog w) R fun t65 w =>
  callF Try.prog 21 #[a0, a4] w R fun t69 w =>
  opv ((Instr.extract t69 0).run Try.prog w) R fun t70 w =>
  opv ((Instr.extract t69 1).run Try.prog w) R fun t71 w =>
  opv ((Builtin.len_ #[32] 3 #[a1]).run Try.prog w) R fun t74 w =>
  opv ((binE false .neq 3 (g1 11) t74).run Try.prog w) R fun t75 w =>
  gd t75 false (fun K => K t65 w) w fun t77 w =>
  gd t75 false (fun K => opv ((binE true .neq 33 t77 (.int .i64 0)).run Try.prog w) R K) w fun t78 w =>
  pick t75 (.bool true) t78 w fun t79 w =>
  gd t79 false (fun K => K t71 w) w fun t81 w =>
  gd t79 false (fun K => opv ((binE true .neq 33 t81 (.int .i64 0)).run Try.prog w) R K) w fun t82 w =>
  pick t79 (.bool true) t82 w fun t83 w =>
  cond t83 (opv ((Builtin.len_ #[32] 3 #[a1]).run Try.prog w) R fun t86 w =>
  opv ((binE false .eql 3 (g1 11) t86).run Try.prog w) R fun t87 w =>
  R (.returned t87) w)
  (opv ((binOp .add 9 a3 a4).run Try.prog w) R fun t92 w =>
  callF Try.prog 21 #[a0, t92] w R fun t93 w =>
  opv ((Instr.extract t93 0).run Try.prog w) R fun t94 w =>
  opv ((Instr.extract t93 1).run Try.prog w) R fun t95 w =>
  opv ((binE true .eql 33 t95 (.int .i64 0)).run Try.prog w) R fun t97 w =>
  gd t97 true (fun K => K t94 w) w fun t99 w =>
  gd t97 true (fun K => K t64 w) w fun t100 w =>
  gd t97 true (fun K => K t70 w) w fun t101 w =>
  gd t97 true (fun K => opv ((Builtin.append_ #[32, 32] 32 #[t100, t101]).run Try.prog w) R K) w fun t102 w =>
  gd t97 true (fun K => callF Try.prog 25 #[t99, t102] w R K) w fun t103 w =>
  pick t97 t103 (.bool false) w fun t104 w =>
  R (.returned t104) w))))
theorem F8.eq (R : Ending → World → Prop) (w : World) (a0 a1 a2 a3 a4 : Value) : F8 R w a0 a1 a2 a3 a4 = shF Try.prog 8 [0,1,2,3,4,10,11,12,13,14,15,16,17,19,37,51,55,57,83] [a0, a1, a2, a3, a4] R w := by kernel_rfl
theorem F8.calls {R : Ending → World → Prop} {w : World} {a0 a1 a2 a3 a4 : Value} (h : F8 R w a0 a1 a2 a3 a4) : Calls Try.prog 8 #[a0, a1, a2, a3, a4] w R := shF_sound (F8.eq R w a0 a1 a2 a3 a4 ▸ h)

/-- greenscreen/greenscreenlaw01.alive -/
def F9 (R : Ending → World → Prop) (w : World) : Prop :=
  callF Try.prog 10 #[(.int .i64 37), (.int .i32 65)] w R fun t11 w =>
  opv ((Instr.extract t11 0).run Try.prog w) R fun t12 w =>
  opv ((Instr.extract t11 1).run Try.prog w) R fun t13 w =>
  callF Try.prog 10 #[(.int .i64 37), (.int .i32 256)] w R fun t15 w =>
  opv ((Instr.extract t15 0).run Try.prog w) R fun t16 w =>
  opv ((Instr.extract t15 1).run Try.prog w) R fun t17 w =>
  callF Try.prog 21 #[(.int .i64 500), (.string ⟨#[91, 97]⟩)] w R fun t19 w =>
  opv ((Instr.extract t19 0).run Try.prog w) R fun t20 w =>
  opv ((Instr.extract t19 1).run Try.prog w) R fun t21 w =>
  callF Try.prog 21 #[(.int .i64 37), (.string ⟨#[0]⟩)] w R fun t23 w =>
  opv ((Instr.extract t23 0).run Try.prog w) R fun t24 w =>
  opv ((Instr.extract t23 1).run Try.prog w) R fun t25 w =>
  callF Try.prog 12 #[(.int .i64 37)] w R fun t26 w =>
  opv ((Instr.alloc 25 true (.tuple #[])).run Try.prog w) R fun t9 w =>
  opu ((Instr.storeAt 25 t9 t26).run Try.prog w) R fun _ w =>
  callF Try.prog 14 #[(.int .i64 37), (.int .u8 193)] w R fun t27 w =>
  opv ((binE true .eql 21 t27 (.int .i32 65)).run Try.prog w) R fun t28 w =>
  gd t28 true (fun K => callF Try.prog 14 #[(.int .i64 37), (.int .u8 74)] w R K) w fun t30 w =>
  gd t28 true (fun K => opv ((binE true .eql 21 t30 (.int .i32 162)).run Try.prog w) R K) w fun t31 w =>
  pick t28 t31 (.bool false) w fun t32 w =>
  gd t32 true (fun K => callF Try.prog 14 #[(.int .i64 500), (.int .u8 74)] w R K) w fun t34 w =>
  gd t32 true (fun K => opv ((binE true .eql 21 t34 (.int .i32 91)).run Try.prog w) R K) w fun t35 w =>
  pick t32 t35 (.bool false) w fun t36 w =>
  gd t36 true (fun K => K t12 w) w fun t38 w =>
  gd t36 true (fun K => opv ((binE true .eql 5 t38 (.int .u8 193)).run Try.prog w) R K) w fun t39 w =>
  pick t36 t39 (.bool false) w fun t40 w =>
  gd t40 true (fun K => K t13 w) w fun t42 w =>
  pick t40 t42 (.bool false) w fun t43 w =>
  gd t43 true (fun K => K t17 w) w fun t45 w =>
  gd t43 true (fun K => opv ((Op.unary .not t45).run Try.prog w) R K) w fun t46 w =>
  pick t43 t46 (.bool false) w fun t47 w =>
  gd t47 true (fun K => opv ((Instr.buildSlice 32 3 #[(0, (.int .u8 193)), (1, (.int .u8 0)), (2, (.int .u8 129))]).run Try.prog w) R K) w fun t49 w =>
  gd t47 true (fun K => callF Try.prog 23 #[(.int .i64 37), t49] w R K) w fun t50 w =>
  gd t47 true (fun K => opv ((binE true .eql 9 t50 (.string ⟨#[65, 32, 97]⟩)).run Try.prog w) R K) w fun t51 w =>
  pick t47 t51 (.bool false) w fun t52 w =>
  gd t52 true (fun K => K t20 w) w fun t54 w =>
  gd t52 true (fun K => opv ((convert 32 9 t54).run Try.prog w) R K) w fun t55 w =>
  gd t52 true (fun K => opv ((binE true .eql 9 t55 (.string ⟨#[74, 129]⟩)).run Try.prog w) R K) w fun t56 w =>
  pick t52 t56 (.bool false) w fun t57 w =>
  gd t57 true (fun K => K t21 w) w fun t59 w =>
  gd t57 true (fun K => opv ((binE true .eql 33 t59 (.int .i64 0)).run Try.prog w) R K) w fun t60 w =>
  pick t57 t60 (.bool false) w fun t61 w =>
  gd t61 true (fun K => K t25 w) w fun t63 w =>
  gd t61 true (fun K => opv ((binE true .eql 33 t63 (.int .i64 21)).run Try.prog w) R K) w fun t64 w =>
  pick t61 t64 (.bool false) w fun t65 w =>
  gd t65 true (fun K => opv ((Instr.indexAt 25 t9 (.int .i64 193)).run Try.prog w) R K) w fun t67 w =>
  gd t65 true (fun K => opv ((Instr.loadAt 21 t67).run Try.prog w) R K) w fun t68 w =>
  gd t65 true (fun K => opv ((binE true .eql 21 t68 (.int .i32 65)).run Try.prog w) R K) w fun t69 w =>
  pick t65 t69 (.bool false) w fun t70 w =>
  gd t70 true (fun K => callF Try.prog 15 #[(.int .i64 37), (.int .u8 129)] w R K) w fun t72 w =>
  gd t70 true (fun K => opv ((binE true .eql 5 t72 (.int .u8 193)).run Try.prog w) R K) w fun t73 w =>
  pick t70 t73 (.bool false) w fun t74 w =>
  gd t74 true (fun K => callF Try.prog 15 #[(.int .i64 37), (.int .u8 241)] w R K) w fun t76 w =>
  gd t74 true (fun K => opv ((binE true .eql 5 t76 (.int .u8 241)).run Try.prog w) R K) w fun t77 w =>
  pick t74 t77 (.bool false) w fun t78 w =>
  gd t78 true (fun K => callF Try.prog 17 #[(.int .u8 249)] w R K) w fun t80 w =>
  pick t78 t80 (.bool false) w fun t81 w =>
  gd t81 true (fun K => callF Try.prog 17 #[(.int .u8 250)] w R K) w fun t83 w =>
  gd t81 true (fun K => opv ((Op.unary .not t83).run Try.prog w) R K) w fun t84 w =>
  pick t81 t84 (.bool false) w fun t85 w =>
  gd t85 true (fun K => callF Try.prog 18 #[(.int .u8 64)] w R K) w fun t87 w =>
  pick t85 t87 (.bool false) w fun t88 w =>
  gd t88 true (fun K => callF Try.prog 18 #[(.int .u8 255)] w R K) w fun t90 w =>
  gd t88 true (fun K => opv ((Op.unary .not t90).run Try.prog w) R K) w fun t91 w =>
  pick t88 t91 (.bool false) w fun t92 w =>
  gd t92 true (fun K => callF Try.prog 20 #[(.int .u8 1)] w R K) w fun t94 w =>
  gd t92 true (fun K => opv ((binE true .eql 21 t94 (.int .i32 57345)).run Try.prog w) R K) w fun t95 w =>
  pick t92 t95 (.bool false) w fun t96 w =>
  R (.returned t96) w
theorem F9.eq (R : Ending → World → Prop) (w : World) : F9 R w  = shF Try.prog 9 [0,1,2,4,5,6,8,9] [] R w := by kernel_rfl
theorem F9.calls {R : Ending → World → Prop} {w : World} (h : F9 R w ) : Calls Try.prog 9 #[] w R := shF_sound (F9.eq R w  ▸ h)

/-- greenscreen/code.Byte -/
def F10 (R : Ending → World → Prop) (w : World) (a0 a1 : Value) : Prop :=
  join (upd (upd (ini [a0, a1]) 4 (.int .u8 0)) 5 (.bool false)) (fun j1 =>
  callF Try.prog 12 #[a0] w R fun t9 w =>
  loop (upd (upd (upd (upd (ini [a0, a1]) 4 (.int .u8 0)) 5 (.bool false)) 9 t9) 10 (.int .i64 0)) w fun e2 g2 w j2 =>
  opv ((binOp .lss 3 (g2 10) (.int .i64 256)).run Try.prog w) R fun t11 w =>
  cond t11 (opv ((Instr.index 25 t9 (g2 10)).run Try.prog w) R fun t13 w =>
  opv ((binE false .eql 21 t13 a1).run Try.prog w) R fun t16 w =>
  cond t16 (opv ((convert 3 5 (g2 10)).run Try.prog w) R fun t18 w =>
  R (.returned (.tuple #[t18, (.bool true)])) w)
  (opv ((binOp .add 3 (g2 10) (.int .i64 1)).run Try.prog w) R fun t19 w =>
  j2 (upd (upd (upd (upd (upd (mix [11,6,7,16,4,5,10] g2 e2) 11 t11) 6 (g2 10)) 7 t13) 16 t16) 10 t19) w))
  (j1 (upd (mix [11,6,7,16,4,5,10] g2 e2) 11 t11) w)) fun e1 g1 w =>
  R (.returned (.tuple #[(.int .u8 0), (.bool false)])) w
theorem F10.eq (R : Ending → World → Prop) (w : World) (a0 a1 : Value) : F10 R w a0 a1 = shF Try.prog 10 [0,1,4,5,6,7,9,10,11,16] [a0, a1] R w := by kernel_rfl
theorem F10.calls {R : Ending → World → Prop} {w : World} {a0 a1 : Value} (h : F10 R w a0 a1) : Calls Try.prog 10 #[a0, a1] w R := shF_sound (F10.eq R w a0 a1 ▸ h)

/-- greenscreen/greenscreenref01.Byte -/
def F11 (R : Ending → World → Prop) (w : World) (a0 a1 : Value) : Prop :=
  join (upd (upd (ini [a0, a1]) 4 (.int .u8 0)) 5 (.bool false)) (fun j1 =>
  loop (upd (upd (upd (ini [a0, a1]) 4 (.int .u8 0)) 5 (.bool false)) 6 (.int .i64 0)) w fun e2 g2 w j2 =>
  opv ((binOp .lss 3 (g2 6) (.int .i64 256)).run Try.prog w) R fun t8 w =>
  cond t8 (opv ((convert 3 5 (g2 6)).run Try.prog w) R fun t13 w =>
  callF Try.prog 13 #[a0, t13] w R fun t14 w =>
  opv ((binE false .eql 21 t14 a1).run Try.prog w) R fun t16 w =>
  cond t16 (opv ((convert 3 5 (g2 6)).run Try.prog w) R fun t18 w =>
  R (.returned (.tuple #[t18, (.bool true)])) w)
  (opv ((binOp .add 3 (g2 6) (.int .i64 1)).run Try.prog w) R fun t10 w =>
  j2 (upd (upd (upd (mix [8,16,4,5,6] g2 e2) 8 t8) 16 t16) 6 t10) w))
  (j1 (upd (mix [8,16,4,5,6] g2 e2) 8 t8) w)) fun e1 g1 w =>
  R (.returned (.tuple #[(.int .u8 0), (.bool false)])) w
theorem F11.eq (R : Ending → World → Prop) (w : World) (a0 a1 : Value) : F11 R w a0 a1 = shF Try.prog 11 [0,1,4,5,6,8,16] [a0, a1] R w := by kernel_rfl
theorem F11.calls {R : Ending → World → Prop} {w : World} {a0 a1 : Value} (h : F11 R w a0 a1) : Calls Try.prog 11 #[a0, a1] w R := shF_sound (F11.eq R w a0 a1 ▸ h)

/-- greenscreen/code.Table -/
def F12 (R : Ending → World → Prop) (w : World) (a0 : Value) : Prop :=
  opv ((Instr.alloc 25 true (.tuple #[])).run Try.prog w) R fun t2 w =>
  opv ((Instr.alloc 25 true (.tuple #[])).run Try.prog w) R fun t3 w =>
  join (upd (upd (ini [a0]) 2 t2) 3 t3) (fun j1 =>
  callF Try.prog 27 #[] w R fun t8 w =>
  loop (upd (upd (upd (upd (ini [a0]) 2 t2) 3 t3) 8 t8) 9 (.int .i64 0)) w fun e2 g2 w j2 =>
  opv ((binOp .lss 3 (g2 9) (.int .i64 256)).run Try.prog w) R fun t10 w =>
  cond t10 (opv ((Instr.index 45 t8 (g2 9)).run Try.prog w) R fun t12 w =>
  opv ((convert 5 21 t12).run Try.prog w) R fun t15 w =>
  opv ((Instr.indexAt 25 t3 (g2 9)).run Try.prog w) R fun t16 w =>
  opu ((Instr.storeAt 21 t16 t15).run Try.prog w) R fun _ w =>
  opv ((binOp .add 3 (g2 9) (.int .i64 1)).run Try.prog w) R fun t17 w =>
  j2 (upd (upd (upd (upd (mix [10,4,5,9] g2 e2) 10 t10) 4 (g2 9)) 5 t12) 9 t17) w)
  (j1 (upd (mix [10,4,5,9] g2 e2) 10 t10) w)) fun e1 g1 w =>
  join (mix [8,10,4,5,9] g1 e1) (fun j3 =>
  callF Try.prog 28 #[a0] w R fun t19 w =>
  opv ((Builtin.len_ #[47] 3 #[t19]).run Try.prog w) R fun t20 w =>
  loop (upd (upd (upd (mix [8,10,4,5,9] g1 e1) 19 t19) 20 t20) 21 (.int .i64 0)) w fun e4 g4 w j4 =>
  opv ((binOp .lss 3 (g4 21) t20).run Try.prog w) R fun t22 w =>
  cond t22 (opv ((Instr.indexAt 47 t19 (g4 21)).run Try.prog w) R fun t23 w =>
  opv ((Instr.loadAt 50 t23).run Try.prog w) R fun t24 w =>
  opv ((Instr.alloc 50 true (.tuple #[])).run Try.prog w) R fun t7 w =>
  opu ((Instr.storeAt 50 t7 t24).run Try.prog w) R fun _ w =>
  opv ((Instr.fieldAt 50 t7 0).run Try.prog w) R fun t25 w =>
  opv ((Instr.loadAt 5 t25).run Try.prog w) R fun t26 w =>
  opv ((Instr.fieldAt 50 t7 1).run Try.prog w) R fun t27 w =>
  opv ((Instr.loadAt 5 t27).run Try.prog w) R fun t28 w =>
  opv ((convert 5 21 t28).run Try.prog w) R fun t29 w =>
  opv ((Instr.indexAt 25 t3 t26).run Try.prog w) R fun t30 w =>
  opu ((Instr.storeAt 21 t30 t29).run Try.prog w) R fun _ w =>
  opv ((binOp .add 3 (g4 21) (.int .i64 1)).run Try.prog w) R fun t31 w =>
  j4 (upd (upd (upd (mix [22,7,21] g4 e4) 22 t22) 7 t7) 21 t31) w)
  (j3 (upd (mix [22,7,21] g4 e4) 22 t22) w)) fun e3 g3 w =>
  opv ((Instr.loadAt 25 t3).run Try.prog w) R fun t32 w =>
  opu ((Instr.storeAt 25 t2 t32).run Try.prog w) R fun _ w =>
  ldv ((Instr.loadAt 25 t2).run Try.prog w) w fun r0 =>
  R (.returned r0) w
theorem F12.eq (R : Ending → World → Prop) (w : World) (a0 : Value) : F12 R w a0 = shF Try.prog 12 [0,2,3,4,5,7,8,9,10,19,20,21,22] [a0] R w := by kernel_rfl
theorem F12.calls {R : Ending → World → Prop} {w : World} {a0 : Value} (h : F12 R w a0) : Calls Try.prog 12 #[a0] w R := shF_sound (F12.eq R w a0 ▸ h)

/-- greenscreen/greenscreenref01.Sign -/
def F13 (R : Ending → World → Prop) (w : World) (a0 a1 : Value) : Prop :=
  opv ((Instr.buildSlice 32 0 #[]).run Try.prog w) R fun t9 w =>
  opv ((Instr.buildSlice 51 0 #[]).run Try.prog w) R fun t10 w =>
  join (upd (upd (upd (ini [a0, a1]) 4 (.int .i32 0)) 5 t9) 6 t10) (fun j1 =>
  opv ((binE true .eql 3 a0 (.int .i64 500)).run Try.prog w) R fun t12 w =>
  cond t12 (opv ((Instr.buildSlice 32 7 #[(0, (.int .u8 74)), (1, (.int .u8 79)), (2, (.int .u8 90)), (3, (.int .u8 95)), (4, (.int .u8 176)), (5, (.int .u8 186)), (6, (.int .u8 187))]).run Try.prog w) R fun t13 w =>
  opv ((Instr.buildSlice 51 7 #[(0, (.int .i32 91)), (1, (.int .i32 33)), (2, (.int .i32 93)), (3, (.int .i32 94)), (4, (.int .i32 162)), (5, (.int .i32 172)), (6, (.int .i32 124))]).run Try.prog w) R fun t14 w =>
  j1 (upd (upd (upd (upd (upd (upd (ini [a0, a1]) 4 (.int .i32 0)) 5 t9) 6 t10) 12 t12) 5 t13) 6 t14) w)
  (j1 (upd (upd (upd (upd (ini [a0, a1]) 4 (.int .i32 0)) 5 t9) 6 t10) 12 t12) w)) fun e1 g1 w =>
  join (mix [12,5,6] g1 e1) (fun j2 =>
  opv ((binE true .eql 3 a0 (.int .i64 1047)).run Try.prog w) R fun t16 w =>
  cond t16 (opv ((Instr.buildSlice 32 6 #[(0, (.int .u8 95)), (1, (.int .u8 173)), (2, (.int .u8 176)), (3, (.int .u8 186)), (4, (.int .u8 187)), (5, (.int .u8 189))]).run Try.prog w) R fun t17 w =>
  opv ((Instr.buildSlice 51 6 #[(0, (.int .i32 94)), (1, (.int .i32 91)), (2, (.int .i32 172)), (3, (.int .i32 221)), (4, (.int .i32 168)), (5, (.int .i32 93))]).run Try.prog w) R fun t18 w =>
  j2 (upd (upd (upd (mix [12,5,6] g1 e1) 16 t16) 5 t17) 6 t18) w)
  (j2 (upd (mix [12,5,6] g1 e1) 16 t16) w)) fun e2 g2 w =>
  join (mix [16,5,6] g2 e2) (fun j3 =>
  loop (upd (mix [16,5,6] g2 e2) 7 (.int .i64 0)) w fun e4 g4 w j4 =>
  opv ((Builtin.len_ #[32] 3 #[(g2 5)]).run Try.prog w) R fun t21 w =>
  opv ((binOp .lss 3 (g4 7) t21).run Try.prog w) R fun t22 w =>
  cond t22 (opv ((Instr.indexAt 32 (g2 5) (g4 7)).run Try.prog w) R fun t27 w =>
  opv ((Instr.loadAt 5 t27).run Try.prog w) R fun t28 w =>
  opv ((binE false .eql 5 t28 a1).run Try.prog w) R fun t30 w =>
  cond t30 (opv ((Instr.indexAt 51 (g2 6) (g4 7)).run Try.prog w) R fun t33 w =>
  opv ((Instr.loadAt 21 t33).run Try.prog w) R fun t34 w =>
  R (.returned t34) w)
  (opv ((binOp .add 3 (g4 7) (.int .i64 1)).run Try.prog w) R fun t24 w =>
  j4 (upd (upd (upd (mix [22,30,4,7] g4 e4) 22 t22) 30 t30) 7 t24) w))
  (j3 (upd (mix [22,30,4,7] g4 e4) 22 t22) w)) fun e3 g3 w =>
  callF Try.prog 29 #[] w R fun t35 w =>
  drawn w fun T w =>
  qop T w (fun w K => opv ((convert 5 3 a1).run Try.prog w) noR K) fun t38 =>
  qop T w (fun w K => opv ((binOp .mul 3 (.int .i64 2) t38).run Try.prog w) noR K) fun t39 =>
  qop T w (fun w K => opv ((Instr.index 9 t35 t39).run Try.prog w) noR K) fun t40 =>
  qop T w (fun w K => callF Try.prog 30 #[t40] w noR K) fun t41 =>
  qop T w (fun w K => opv ((binOp .mul 3 (.int .i64 16) t41).run Try.prog w) noR K) fun t42 =>
  qop T w (fun w K => opv ((convert 5 3 a1).run Try.prog w) noR K) fun t45 =>
  qop T w (fun w K => opv ((binOp .mul 3 (.int .i64 2) t45).run Try.prog w) noR K) fun t46 =>
  qop T w (fun w K => opv ((binOp .add 3 t46 (.int .i64 1)).run Try.prog w) noR K) fun t47 =>
  qop T w (fun w K => opv ((Instr.index 9 t35 t47).run Try.prog w) noR K) fun t48 =>
  qop T w (fun w K => callF Try.prog 30 #[t48] w noR K) fun t49 =>
  qop T w (fun w K => opv ((binOp .add 3 t42 t49).run Try.prog w) noR K) fun t50 =>
  qop T w (fun w K => opv ((convert 3 21 t50).run Try.prog w) noR K) fun t51 =>
  ext w fun w =>
  R (.returned t51) w
theorem F13.eq (R : Ending → World → Prop) (w : World) (a0 a1 : Value) : F13 R w a0 a1 = shF Try.prog 13 [0,1,4,5,6,7,8,12,16,22,30] [a0, a1] R w := by kernel_rfl
theorem F13.calls {R : Ending → World → Prop} {w : World} {a0 a1 : Value} (h : F13 R w a0 a1) : Calls Try.prog 13 #[a0, a1] w R := shF_sound (F13.eq R w a0 a1 ▸ h)

/-- greenscreen/code.Sign -/
def F14 (R : Ending → World → Prop) (w : World) (a0 a1 : Value) : Prop :=
  join (upd (ini [a0, a1]) 4 (.int .i32 0)) (fun j1 =>
  callF Try.prog 28 #[a0] w R fun t8 w =>
  opv ((Builtin.len_ #[47] 3 #[t8]).run Try.prog w) R fun t9 w =>
  loop (upd (upd (upd (upd (ini [a0, a1]) 4 (.int .i32 0)) 8 t8) 9 t9) 10 (.int .i64 0)) w fun e2 g2 w j2 =>
  opv ((binOp .lss 3 (g2 10) t9).run Try.prog w) R fun t11 w =>
  cond t11 (opv ((Instr.indexAt 47 t8 (g2 10)).run Try.prog w) R fun t12 w =>
  opv ((Instr.loadAt 50 t12).run Try.prog w) R fun t13 w =>
  opv ((Instr.alloc 50 true (.tuple #[])).run Try.prog w) R fun t6 w =>
  opu ((Instr.storeAt 50 t6 t13).run Try.prog w) R fun _ w =>
  opv ((Instr.fieldAt 50 t6 0).run Try.prog w) R fun t14 w =>
  opv ((Instr.loadAt 5 t14).run Try.prog w) R fun t15 w =>
  opv ((binE false .eql 5 t15 a1).run Try.prog w) R fun t17 w =>
  cond t17 (opv ((Instr.fieldAt 50 t6 1).run Try.prog w) R fun t18 w =>
  opv ((Instr.loadAt 5 t18).run Try.prog w) R fun t19 w =>
  opv ((convert 5 21 t19).run Try.prog w) R fun t20 w =>
  R (.returned t20) w)
  (opv ((binOp .add 3 (g2 10) (.int .i64 1)).run Try.prog w) R fun t21 w =>
  j2 (upd (upd (upd (upd (mix [11,6,17,4,10] g2 e2) 11 t11) 6 t6) 17 t17) 10 t21) w))
  (j1 (upd (mix [11,6,17,4,10] g2 e2) 11 t11) w)) fun e1 g1 w =>
  callF Try.prog 27 #[] w R fun t22 w =>
  opv ((Instr.index 45 t22 a1).run Try.prog w) R fun t24 w =>
  opv ((convert 5 21 t24).run Try.prog w) R fun t25 w =>
  R (.returned t25) w
theorem F14.eq (R : Ending → World → Prop) (w : World) (a0 a1 : Value) : F14 R w a0 a1 = shF Try.prog 14 [0,1,4,6,8,9,10,11,17] [a0, a1] R w := by kernel_rfl
theorem F14.calls {R : Ending → World → Prop} {w : World} {a0 a1 : Value} (h : F14 R w a0 a1) : Calls Try.prog 14 #[a0, a1] w R := shF_sound (F14.eq R w a0 a1 ▸ h)

/-- greenscreen/code.Upper -/
def F15 (R : Ending → World → Prop) (w : World) (a0 a1 : Value) : Prop :=
  callF Try.prog 14 #[a0, a1] w R fun t10 w =>
  opv ((binOp .lss 21 t10 (.int .i32 97)).run Try.prog w) R fun t12 w =>
  gd t12 false (fun K => K t10 w) w fun t14 w =>
  gd t12 false (fun K => opv ((binOp .gtr 21 t14 (.int .i32 122)).run Try.prog w) R K) w fun t15 w =>
  pick t12 (.bool true) t15 w fun t16 w =>
  cond t16 (R (.returned a1) w)
  (opv ((binOp .sub 21 t10 (.int .i32 32)).run Try.prog w) R fun t21 w =>
  callF Try.prog 10 #[a0, t21] w R fun t22 w =>
  opv ((Instr.extract t22 0).run Try.prog w) R fun t23 w =>
  opv ((Instr.extract t22 1).run Try.prog w) R fun t24 w =>
  R (.returned t23) w)
theorem F15.eq (R : Ending → World → Prop) (w : World) (a0 a1 : Value) : F15 R w a0 a1 = shF Try.prog 15 [0,1,4,5,6,16] [a0, a1] R w := by kernel_rfl
theorem F15.calls {R : Ending → World → Prop} {w : World} {a0 a1 : Value} (h : F15 R w a0 a1) : Calls Try.prog 15 #[a0, a1] w R := shF_sound (F15.eq R w a0 a1 ▸ h)

/-- greenscreen/greenscreenref01.Upper -/
def F16 (R : Ending → World → Prop) (w : World) (a0 a1 : Value) : Prop :=
  callF Try.prog 13 #[a0, a1] w R fun t10 w =>
  opv ((binOp .lss 21 t10 (.int .i32 97)).run Try.prog w) R fun t12 w =>
  gd t12 false (fun K => K t10 w) w fun t14 w =>
  gd t12 false (fun K => opv ((binOp .gtr 21 t14 (.int .i32 122)).run Try.prog w) R K) w fun t15 w =>
  pick t12 (.bool true) t15 w fun t16 w =>
  cond t16 (R (.returned a1) w)
  (opv ((binOp .sub 21 t10 (.int .i32 32)).run Try.prog w) R fun t21 w =>
  callF Try.prog 11 #[a0, t21] w R fun t22 w =>
  opv ((Instr.extract t22 0).run Try.prog w) R fun t23 w =>
  opv ((Instr.extract t22 1).run Try.prog w) R fun t24 w =>
  R (.returned t23) w)
theorem F16.eq (R : Ending → World → Prop) (w : World) (a0 a1 : Value) : F16 R w a0 a1 = shF Try.prog 16 [0,1,4,5,6,16] [a0, a1] R w := by kernel_rfl
theorem F16.calls {R : Ending → World → Prop} {w : World} {a0 a1 : Value} (h : F16 R w a0 a1) : Calls Try.prog 16 #[a0, a1] w R := shF_sound (F16.eq R w a0 a1 ▸ h)

/-- greenscreen/code.Digit -/
def F17 (R : Ending → World → Prop) (w : World) (a0 : Value) : Prop :=
  opv ((binOp .geq 5 a0 (.int .u8 240)).run Try.prog w) R fun t4 w =>
  gd t4 true (fun K => K a0 w) w fun t6 w =>
  gd t4 true (fun K => opv ((binOp .leq 5 t6 (.int .u8 249)).run Try.prog w) R K) w fun t7 w =>
  pick t4 t7 (.bool false) w fun t8 w =>
  R (.returned t8) w
theorem F17.eq (R : Ending → World → Prop) (w : World) (a0 : Value) : F17 R w a0 = shF Try.prog 17 [0,2] [a0] R w := by kernel_rfl
theorem F17.calls {R : Ending → World → Prop} {w : World} {a0 : Value} (h : F17 R w a0) : Calls Try.prog 17 #[a0] w R := shF_sound (F17.eq R w a0 ▸ h)

/-- greenscreen/code.Graphic -/
def F18 (R : Ending → World → Prop) (w : World) (a0 : Value) : Prop :=
  opv ((binOp .geq 5 a0 (.int .u8 64)).run Try.prog w) R fun t4 w =>
  gd t4 true (fun K => K a0 w) w fun t6 w =>
  gd t4 true (fun K => opv ((binOp .leq 5 t6 (.int .u8 254)).run Try.prog w) R K) w fun t7 w =>
  pick t4 t7 (.bool false) w fun t8 w =>
  R (.returned t8) w
theorem F18.eq (R : Ending → World → Prop) (w : World) (a0 : Value) : F18 R w a0 = shF Try.prog 18 [0,2] [a0] R w := by kernel_rfl
theorem F18.calls {R : Ending → World → Prop} {w : World} {a0 : Value} (h : F18 R w a0) : Calls Try.prog 18 #[a0] w R := shF_sound (F18.eq R w a0 ▸ h)

/-- greenscreen/greenscreenref01.Seen -/
def F19 (R : Ending → World → Prop) (w : World) (a0 : Value) : Prop :=
  opv ((binOp .geq 5 a0 (.int .u8 64)).run Try.prog w) R fun t4 w =>
  gd t4 true (fun K => K a0 w) w fun t6 w =>
  gd t4 true (fun K => opv ((binOp .leq 5 t6 (.int .u8 254)).run Try.prog w) R K) w fun t7 w =>
  pick t4 t7 (.bool false) w fun t8 w =>
  R (.returned t8) w
theorem F19.eq (R : Ending → World → Prop) (w : World) (a0 : Value) : F19 R w a0 = shF Try.prog 19 [0,2] [a0] R w := by kernel_rfl
theorem F19.calls {R : Ending → World → Prop} {w : World} {a0 : Value} (h : F19 R w a0) : Calls Try.prog 19 #[a0] w R := shF_sound (F19.eq R w a0 ▸ h)

/-- greenscreen/code.Special -/
def F20 (R : Ending → World → Prop) (w : World) (a0 : Value) : Prop :=
  opv ((convert 5 21 a0).run Try.prog w) R fun t4 w =>
  opv ((binOp .add 21 (.int .i32 57344) t4).run Try.prog w) R fun t5 w =>
  R (.returned t5) w
theorem F20.eq (R : Ending → World → Prop) (w : World) (a0 : Value) : F20 R w a0 = shF Try.prog 20 [0,2] [a0] R w := by kernel_rfl
theorem F20.calls {R : Ending → World → Prop} {w : World} {a0 : Value} (h : F20 R w a0) : Calls Try.prog 20 #[a0] w R := shF_sound (F20.eq R w a0 ▸ h)

/-- greenscreen/code.Bytes -/
def F21 (R : Ending → World → Prop) (w : World) (a0 a1 : Value) : Prop :=
  callF Try.prog 31 #[a0] w R fun t13 w =>
  join (upd (upd (upd (upd (ini [a0, a1]) 4 (.slice none 0 0)) 5 (.int .i64 0)) 6 t13) 7 (.slice none 0 0)) (fun j1 =>
  opv ((Instr.range 9 a1).run Try.prog w) R fun t15 w =>
  loop (upd (upd (upd (upd (upd (ini [a0, a1]) 4 (.slice none 0 0)) 5 (.int .i64 0)) 6 t13) 7 (.slice none 0 0)) 15 t15) w fun e2 g2 w j2 =>
  opv ((Instr.next t15 true 0).run Try.prog w) R fun t16 w =>
  opv ((Instr.extract t16 0).run Try.prog w) R fun t17 w =>
  cond t17 (opv ((Instr.extract t16 2).run Try.prog w) R fun t18 w =>
  opv ((Instr.lookup 54 t13 t18 true).run Try.prog w) R fun t22 w =>
  opv ((Instr.extract t22 0).run Try.prog w) R fun t23 w =>
  opv ((Instr.extract t22 1).run Try.prog w) R fun t24 w =>
  opv ((Op.unary .not t24).run Try.prog w) R fun t26 w =>
  cond t26 (R (.returned (.tuple #[(.slice none 0 0), (.int .i64 21)])) w)
  (opv ((Instr.buildSlice 32 1 #[(0, t23)]).run Try.prog w) R fun t29 w =>
  opv ((Builtin.append_ #[32, 32] 32 #[(g2 7), t29]).run Try.prog w) R fun t30 w =>
  j2 (upd (upd (upd (upd (upd (upd (upd (mix [16,17,9,10,11,26,4,5,7] g2 e2) 16 t16) 17 t17) 9 t18) 10 t23) 11 t24) 26 t26) 7 t30) w))
  (j1 (upd (upd (mix [16,17,9,10,11,26,4,5,7] g2 e2) 16 t16) 17 t17) w)) fun e1 g1 w =>
  R (.returned (.tuple #[(g1 7), (.int .i64 0)])) w
theorem F21.eq (R : Ending → World → Prop) (w : World) (a0 a1 : Value) : F21 R w a0 a1 = shF Try.prog 21 [0,1,4,5,6,7,9,10,11,15,16,17,26] [a0, a1] R w := by kernel_rfl
theorem F21.calls {R : Ending → World → Prop} {w : World} {a0 a1 : Value} (h : F21 R w a0 a1) : Calls Try.prog 21 #[a0, a1] w R := shF_sound (F21.eq R w a0 a1 ▸ h)

/-- greenscreen/greenscreenref01.Bytes -/
def F22 (R : Ending → World → Prop) (w : World) (a0 a1 : Value) : Prop :=
  opv ((Instr.buildSlice 32 0 #[]).run Try.prog w) R fun t11 w =>
  join (upd (upd (upd (ini [a0, a1]) 4 (.slice none 0 0)) 5 (.int .i64 0)) 6 t11) (fun j1 =>
  opv ((Instr.range 9 a1).run Try.prog w) R fun t13 w =>
  loop (upd (upd (upd (upd (ini [a0, a1]) 4 (.slice none 0 0)) 5 (.int .i64 0)) 6 t11) 13 t13) w fun e2 g2 w j2 =>
  opv ((Instr.next t13 true 0).run Try.prog w) R fun t14 w =>
  opv ((Instr.extract t14 0).run Try.prog w) R fun t15 w =>
  cond t15 (opv ((Instr.extract t14 2).run Try.prog w) R fun t16 w =>
  callF Try.prog 11 #[a0, t16] w R fun t20 w =>
  opv ((Instr.extract t20 0).run Try.prog w) R fun t21 w =>
  opv ((Instr.extract t20 1).run Try.prog w) R fun t22 w =>
  opv ((Op.unary .not t22).run Try.prog w) R fun t24 w =>
  gd t24 false (fun K => K t21 w) w fun t26 w =>
  gd t24 false (fun K => callF Try.prog 19 #[t26] w R K) w fun t27 w =>
  gd t24 false (fun K => opv ((Op.unary .not t27).run Try.prog w) R K) w fun t28 w =>
  pick t24 (.bool true) t28 w fun t29 w =>
  cond t29 (R (.returned (.tuple #[(.slice none 0 0), (.int .i64 21)])) w)
  (opv ((Instr.buildSlice 32 1 #[(0, t21)]).run Try.prog w) R fun t32 w =>
  opv ((Builtin.append_ #[32, 32] 32 #[(g2 6), t32]).run Try.prog w) R fun t33 w =>
  j2 (upd (upd (upd (upd (upd (upd (upd (mix [14,15,8,9,10,29,4,5,6] g2 e2) 14 t14) 15 t15) 8 t16) 9 t21) 10 t22) 29 t29) 6 t33) w))
  (j1 (upd (upd (mix [14,15,8,9,10,29,4,5,6] g2 e2) 14 t14) 15 t15) w)) fun e1 g1 w =>
  R (.returned (.tuple #[(g1 6), (.int .i64 0)])) w
theorem F22.eq (R : Ending → World → Prop) (w : World) (a0 a1 : Value) : F22 R w a0 a1 = shF Try.prog 22 [0,1,4,5,6,8,9,10,13,14,15,29] [a0, a1] R w := by kernel_rfl
theorem F22.calls {R : Ending → World → Prop} {w : World} {a0 a1 : Value} (h : F22 R w a0 a1) : Calls Try.prog 22 #[a0, a1] w R := shF_sound (F22.eq R w a0 a1 ▸ h)

/-- greenscreen/code.Text -/
def F23 (R : Ending → World → Prop) (w : World) (a0 a1 : Value) : Prop :=
  opv ((Instr.alloc 58 true (.tuple #[])).run Try.prog w) R fun t5 w =>
  callF Try.prog 12 #[a0] w R fun t10 w =>
  opv ((Instr.alloc 25 true (.tuple #[])).run Try.prog w) R fun t6 w =>
  opu ((Instr.storeAt 25 t6 t10).run Try.prog w) R fun _ w =>
  join (upd (upd (upd (ini [a0, a1]) 4 (.string ⟨#[]⟩)) 5 t5) 6 t6) (fun j1 =>
  opv ((Builtin.len_ #[32] 3 #[a1]).run Try.prog w) R fun t12 w =>
  loop (upd (upd (upd (upd (upd (upd (ini [a0, a1]) 4 (.string ⟨#[]⟩)) 5 t5) 6 t6) 11 a1) 12 t12) 13 (.int .i64 0)) w fun e2 g2 w j2 =>
  opv ((binOp .lss 3 (g2 13) t12).run Try.prog w) R fun t14 w =>
  cond t14 (join (upd (mix [14,8,18,13] g2 e2) 14 t14) (fun j3 =>
  opv ((Instr.indexAt 32 a1 (g2 13)).run Try.prog w) R fun t15 w =>
  opv ((Instr.loadAt 5 t15).run Try.prog w) R fun t16 w =>
  callF Try.prog 18 #[t16] w R fun t18 w =>
  cond t18 (opv ((Instr.indexAt 25 t6 t16).run Try.prog w) R fun t20 w =>
  opv ((Instr.loadAt 21 t20).run Try.prog w) R fun t21 w =>
  callF Try.prog 32 #[t5, t21] w R fun t22 w =>
  j3 (upd (upd (upd (mix [14,8,18,13] g2 e2) 14 t14) 8 t16) 18 t18) w)
  (callF Try.prog 33 #[t5, (.int .u8 32)] w R fun t23 w =>
  j3 (upd (upd (upd (mix [14,8,18,13] g2 e2) 14 t14) 8 t16) 18 t18) w)) fun e3 g3 w =>
  opv ((binOp .add 3 (g2 13) (.int .i64 1)).run Try.prog w) R fun t24 w =>
  j2 (upd (mix [8,18] g3 e3) 13 t24) w)
  (j1 (upd (mix [14,8,18,13] g2 e2) 14 t14) w)) fun e1 g1 w =>
  callF Try.prog 34 #[t5] w R fun t25 w =>
  R (.returned t25) w
theorem F23.eq (R : Ending → World → Prop) (w : World) (a0 a1 : Value) : F23 R w a0 a1 = shF Try.prog 23 [0,1,4,5,6,8,11,12,13,14,18] [a0, a1] R w := by kernel_rfl
theorem F23.calls {R : Ending → World → Prop} {w : World} {a0 a1 : Value} (h : F23 R w a0 a1) : Calls Try.prog 23 #[a0, a1] w R := shF_sound (F23.eq R w a0 a1 ▸ h)

/-- greenscreen/greenscreenref01.Text -/
def F24 (R : Ending → World → Prop) (w : World) (a0 a1 : Value) : Prop :=
  join (upd (upd (ini [a0, a1]) 4 (.string ⟨#[]⟩)) 5 (.string ⟨#[]⟩)) (fun j1 =>
  loop (upd (upd (upd (ini [a0, a1]) 4 (.string ⟨#[]⟩)) 5 (.string ⟨#[]⟩)) 6 (.int .i64 0)) w fun e2 g2 w j2 =>
  opv ((Builtin.len_ #[32] 3 #[a1]).run Try.prog w) R fun t9 w =>
  opv ((binOp .lss 3 (g2 6) t9).run Try.prog w) R fun t10 w =>
  cond t10 (join (upd (mix [10,17,5,6] g2 e2) 10 t10) (fun j3 =>
  opv ((Instr.indexAt 32 a1 (g2 6)).run Try.prog w) R fun t15 w =>
  opv ((Instr.loadAt 5 t15).run Try.prog w) R fun t16 w =>
  callF Try.prog 19 #[t16] w R fun t17 w =>
  cond t17 (opv ((Instr.indexAt 32 a1 (g2 6)).run Try.prog w) R fun t22 w =>
  opv ((Instr.loadAt 5 t22).run Try.prog w) R fun t23 w =>
  callF Try.prog 13 #[a0, t23] w R fun t24 w =>
  opv ((convert 21 9 t24).run Try.prog w) R fun t25 w =>
  opv ((binOp .add 9 (g2 5) t25).run Try.prog w) R fun t26 w =>
  j3 (upd (upd (upd (mix [10,17,5,6] g2 e2) 10 t10) 17 t17) 5 t26) w)
  (opv ((binOp .add 9 (g2 5) (.string ⟨#[32]⟩)).run Try.prog w) R fun t28 w =>
  j3 (upd (upd (upd (mix [10,17,5,6] g2 e2) 10 t10) 17 t17) 5 t28) w)) fun e3 g3 w =>
  opv ((binOp .add 3 (g2 6) (.int .i64 1)).run Try.prog w) R fun t12 w =>
  j2 (upd (mix [17,5] g3 e3) 6 t12) w)
  (j1 (upd (mix [10,17,5,6] g2 e2) 10 t10) w)) fun e1 g1 w =>
  R (.returned (g1 5)) w
theorem F24.eq (R : Ending → World → Prop) (w : World) (a0 a1 : Value) : F24 R w a0 a1 = shF Try.prog 24 [0,1,4,5,6,10,17] [a0, a1] R w := by kernel_rfl
theorem F24.calls {R : Ending → World → Prop} {w : World} {a0 a1 : Value} (h : F24 R w a0 a1) : Calls Try.prog 24 #[a0, a1] w R := shF_sound (F24.eq R w a0 a1 ▸ h)

/-- greenscreen/greenscreenref01.Same -/
def F25 (R : Ending → World → Prop) (w : World) (a0 a1 : Value) : Prop :=
  opv ((Builtin.len_ #[32] 3 #[a0]).run Try.prog w) R fun t7 w =>
  opv ((Builtin.len_ #[32] 3 #[a1]).run Try.prog w) R fun t9 w =>
  opv ((binE false .neq 3 t7 t9).run Try.prog w) R fun t10 w =>
  cond t10 (R (.returned (.bool false)) w)
  (join (upd (upd (ini [a0, a1]) 4 (.bool false)) 10 t10) (fun j1 =>
  loop (upd (upd (upd (ini [a0, a1]) 4 (.bool false)) 10 t10) 5 (.int .i64 0)) w fun e2 g2 w j2 =>
  opv ((Builtin.len_ #[32] 3 #[a0]).run Try.prog w) R fun t13 w =>
  opv ((binOp .lss 3 (g2 5) t13).run Try.prog w) R fun t14 w =>
  cond t14 (drawn w fun T w =>
  qop T w (fun w K => opv ((Instr.indexAt 32 a0 (g2 5)).run Try.prog w) noR K) fun t19 =>
  qop T w (fun w K => opv ((Instr.loadAt 5 t19).run Try.prog w) noR K) fun t20 =>
  qop T w (fun w K => opv ((Instr.indexAt 32 a1 (g2 5)).run Try.prog w) noR K) fun t23 =>
  qop T w (fun w K => opv ((Instr.loadAt 5 t23).run Try.prog w) noR K) fun t24 =>
  qop T w (fun w K => opv ((binE false .neq 5 t20 t24).run Try.prog w) noR K) fun t25 =>
  ext w fun w =>
  cond t25 (R (.returned (.bool false)) w)
  (opv ((binOp .add 3 (g2 5) (.int .i64 1)).run Try.prog w) R fun t16 w =>
  j2 (upd (upd (upd (mix [14,25,4,5] g2 e2) 14 t14) 25 t25) 5 t16) w))
  (j1 (upd (mix [14,25,4,5] g2 e2) 14 t14) w)) fun e1 g1 w =>
  R (.returned (.bool true)) w)
theorem F25.eq (R : Ending → World → Prop) (w : World) (a0 a1 : Value) : F25 R w a0 a1 = shF Try.prog 25 [0,1,4,5,10,14,25] [a0, a1] R w := by kernel_rfl
theorem F25.calls {R : Ending → World → Prop} {w : World} {a0 a1 : Value} (h : F25 R w a0 a1) : Calls Try.prog 25 #[a0, a1] w R := shF_sound (F25.eq R w a0 a1 ▸ h)

/-- greenscreen/greenscreenref01.Copy -/
def F26 (R : Ending → World → Prop) (w : World) (a0 : Value) : Prop :=
  opv ((Instr.buildSlice 32 0 #[]).run Try.prog w) R fun t5 w =>
  join (upd (upd (ini [a0]) 2 (.slice none 0 0)) 3 t5) (fun j1 =>
  loop (upd (upd (upd (ini [a0]) 2 (.slice none 0 0)) 3 t5) 4 (.int .i64 0)) w fun e2 g2 w j2 =>
  opv ((Builtin.len_ #[32] 3 #[a0]).run Try.prog w) R fun t8 w =>
  opv ((binOp .lss 3 (g2 4) t8).run Try.prog w) R fun t9 w =>
  cond t9 (opv ((Instr.indexAt 32 a0 (g2 4)).run Try.prog w) R fun t15 w =>
  opv ((Instr.loadAt 5 t15).run Try.prog w) R fun t16 w =>
  opv ((Instr.buildSlice 32 1 #[(0, t16)]).run Try.prog w) R fun t17 w =>
  opv ((Builtin.append_ #[32, 32] 32 #[(g2 3), t17]).run Try.prog w) R fun t18 w =>
  opv ((binOp .add 3 (g2 4) (.int .i64 1)).run Try.prog w) R fun t11 w =>
  j2 (upd (upd (upd (mix [9,3,4] g2 e2) 9 t9) 3 t18) 4 t11) w)
  (j1 (upd (mix [9,3,4] g2 e2) 9 t9) w)) fun e1 g1 w =>
  R (.returned (g1 3)) w
theorem F26.eq (R : Ending → World → Prop) (w : World) (a0 : Value) : F26 R w a0 = shF Try.prog 26 [0,2,3,4,9] [a0] R w := by kernel_rfl
theorem F26.calls {R : Ending → World → Prop} {w : World} {a0 : Value} (h : F26 R w a0) : Calls Try.prog 26 #[a0] w R := shF_sound (F26.eq R w a0 ▸ h)

/-- greenscreen/code.swaps -/
def F28 (R : Ending → World → Prop) (w : World) (a0 : Value) : Prop :=
  opv ((binE true .eql 3 a0 (.int .i64 500)).run Try.prog w) R fun t5 w =>
  cond t5 (opv ((Instr.build 50 #[(0, (.int .u8 74)), (1, (.int .u8 91))]).run Try.prog w) R fun t6 w =>
  opv ((Instr.build 50 #[(0, (.int .u8 79)), (1, (.int .u8 33))]).run Try.prog w) R fun t7 w =>
  opv ((Instr.build 50 #[(0, (.int .u8 90)), (1, (.int .u8 93))]).run Try.prog w) R fun t8 w =>
  opv ((Instr.build 50 #[(0, (.int .u8 95)), (1, (.int .u8 94))]).run Try.prog w) R fun t9 w =>
  opv ((Instr.build 50 #[(0, (.int .u8 176)), (1, (.int .u8 162))]).run Try.prog w) R fun t10 w =>
  opv ((Instr.build 50 #[(0, (.int .u8 186)), (1, (.int .u8 172))]).run Try.prog w) R fun t11 w =>
  opv ((Instr.build 50 #[(0, (.int .u8 187)), (1, (.int .u8 124))]).run Try.prog w) R fun t12 w =>
  opv ((Instr.buildSlice 47 7 #[(0, t6), (1, t7), (2, t8), (3, t9), (4, t10), (5, t11), (6, t12)]).run Try.prog w) R fun t13 w =>
  R (.returned t13) w)
  (opv ((binE true .eql 3 a0 (.int .i64 1047)).run Try.prog w) R fun t15 w =>
  cond t15 (opv ((Instr.build 50 #[(0, (.int .u8 95)), (1, (.int .u8 94))]).run Try.prog w) R fun t16 w =>
  opv ((Instr.build 50 #[(0, (.int .u8 173)), (1, (.int .u8 91))]).run Try.prog w) R fun t17 w =>
  opv ((Instr.build 50 #[(0, (.int .u8 176)), (1, (.int .u8 172))]).run Try.prog w) R fun t18 w =>
  opv ((Instr.build 50 #[(0, (.int .u8 186)), (1, (.int .u8 221))]).run Try.prog w) R fun t19 w =>
  opv ((Instr.build 50 #[(0, (.int .u8 187)), (1, (.int .u8 168))]).run Try.prog w) R fun t20 w =>
  opv ((Instr.build 50 #[(0, (.int .u8 189)), (1, (.int .u8 93))]).run Try.prog w) R fun t21 w =>
  opv ((Instr.buildSlice 47 6 #[(0, t16), (1, t17), (2, t18), (3, t19), (4, t20), (5, t21)]).run Try.prog w) R fun t22 w =>
  R (.returned t22) w)
  (R (.returned (.slice none 0 0)) w))
theorem F28.eq (R : Ending → World → Prop) (w : World) (a0 : Value) : F28 R w a0 = shF Try.prog 28 [0,2,3,4,14] [a0] R w := by kernel_rfl
theorem F28.calls {R : Ending → World → Prop} {w : World} {a0 : Value} (h : F28 R w a0) : Calls Try.prog 28 #[a0] w R := shF_sound (F28.eq R w a0 ▸ h)

/-- greenscreen/greenscreenref01.list -/
def F29 (R : Ending → World → Prop) (w : World) : Prop :=
  R (.returned (.string ⟨#[48, 48, 48, 49, 48, 50, 48, 51, 57, 67, 48, 57, 56, 54, 55, 70, 57, 55, 56, 68, 56, 69, 48, 66, 48, 67, 48, 68, 48, 69, 48, 70, 49, 48, 49, 49, 49, 50, 49, 51, 57, 68, 56, 53, 48, 56, 56, 55, 49, 56, 49, 57, 57, 50, 56, 70, 49, 67, 49, 68, 49, 69, 49, 70, 56, 48, 56, 49, 56, 50, 56, 51, 56, 52, 48, 65, 49, 55, 49, 66, 56, 56, 56, 57, 56, 65, 56, 66, 56, 67, 48, 53, 48, 54, 48, 55, 57, 48, 57, 49, 49, 54, 57, 51, 57, 52, 57, 53, 57, 54, 48, 52, 57, 56, 57, 57, 57, 65, 57, 66, 49, 52, 49, 53, 57, 69, 49, 65, 50, 48, 65, 48, 69, 50, 69, 52, 69, 48, 69, 49, 69, 51, 69, 53, 69, 55, 70, 49, 65, 50, 50, 69, 51, 67, 50, 56, 50, 66, 55, 67, 50, 54, 69, 57, 69, 65, 69, 66, 69, 56, 69, 68, 69, 69, 69, 70, 69, 67, 68, 70, 50, 49, 50, 52, 50, 65, 50, 57, 51, 66, 65, 67, 50, 68, 50, 70, 67, 50, 67, 52, 67, 48, 67, 49, 67, 51, 67, 53, 67, 55, 68, 49, 65, 54, 50, 67, 50, 53, 53, 70, 51, 69, 51, 70, 70, 56, 67, 57, 67, 65, 67, 66, 67, 56, 67, 68, 67, 69, 67, 70, 67, 67, 54, 48, 51, 65, 50, 51, 52, 48, 50, 55, 51, 68, 50, 50, 68, 56, 54, 49, 54, 50, 54, 51, 54, 52, 54, 53, 54, 54, 54, 55, 54, 56, 54, 57, 65, 66, 66, 66, 70, 48, 70, 68, 70, 69, 66, 49, 66, 48, 54, 65, 54, 66, 54, 67, 54, 68, 54, 69, 54, 70, 55, 48, 55, 49, 55, 50, 65, 65, 66, 65, 69, 54, 66, 56, 67, 54, 65, 52, 66, 53, 55, 69, 55, 51, 55, 52, 55, 53, 55, 54, 55, 55, 55, 56, 55, 57, 55, 65, 65, 49, 66, 70, 68, 48, 68, 68, 68, 69, 65, 69, 53, 69, 65, 51, 65, 53, 66, 55, 65, 57, 65, 55, 66, 54, 66, 67, 66, 68, 66, 69, 53, 66, 53, 68, 65, 70, 65, 56, 66, 52, 68, 55, 55, 66, 52, 49, 52, 50, 52, 51, 52, 52, 52, 53, 52, 54, 52, 55, 52, 56, 52, 57, 65, 68, 70, 52, 70, 54, 70, 50, 70, 51, 70, 53, 55, 68, 52, 65, 52, 66, 52, 67, 52, 68, 52, 69, 52, 70, 53, 48, 53, 49, 53, 50, 66, 57, 70, 66, 70, 67, 70, 57, 70, 65, 70, 70, 53, 67, 70, 55, 53, 51, 53, 52, 53, 53, 53, 54, 53, 55, 53, 56, 53, 57, 53, 65, 66, 50, 68, 52, 68, 54, 68, 50, 68, 51, 68, 53, 51, 48, 51, 49, 51, 50, 51, 51, 51, 52, 51, 53, 51, 54, 51, 55, 51, 56, 51, 57, 66, 51, 68, 66, 68, 67, 68, 57, 68, 65, 57, 70]⟩)) w
theorem F29.eq (R : Ending → World → Prop) (w : World) : F29 R w  = shF Try.prog 29 [0] [] R w := by kernel_rfl
theorem F29.calls {R : Ending → World → Prop} {w : World} (h : F29 R w ) : Calls Try.prog 29 #[] w R := shF_sound (F29.eq R w  ▸ h)

/-- greenscreen/greenscreenref01.value -/
def F30 (R : Ending → World → Prop) (w : World) (a0 : Value) : Prop :=
  opv ((binOp .geq 5 a0 (.int .u8 65)).run Try.prog w) R fun t4 w =>
  cond t4 (opv ((convert 5 3 a0).run Try.prog w) R fun t6 w =>
  opv ((binOp .sub 3 t6 (.int .i64 55)).run Try.prog w) R fun t7 w =>
  R (.returned t7) w)
  (opv ((convert 5 3 a0).run Try.prog w) R fun t9 w =>
  opv ((binOp .sub 3 t9 (.int .i64 48)).run Try.prog w) R fun t10 w =>
  R (.returned t10) w)
theorem F30.eq (R : Ending → World → Prop) (w : World) (a0 : Value) : F30 R w a0 = shF Try.prog 30 [0,2,4] [a0] R w := by kernel_rfl
theorem F30.calls {R : Ending → World → Prop} {w : World} {a0 : Value} (h : F30 R w a0) : Calls Try.prog 30 #[a0] w R := shF_sound (F30.eq R w a0 ▸ h)

/-- greenscreen/code.backward -/
def F31 (R : Ending → World → Prop) (w : World) (a0 : Value) : Prop :=
  opv ((Instr.makeMap 54 none).run Try.prog w) R fun t6 w =>
  join (upd (upd (ini [a0]) 2 (.map none)) 3 t6) (fun j1 =>
  callF Try.prog 12 #[a0] w R fun t8 w =>
  loop (upd (upd (upd (upd (ini [a0]) 2 (.map none)) 3 t6) 8 t8) 9 (.int .i64 0)) w fun e2 g2 w j2 =>
  opv ((binOp .lss 3 (g2 9) (.int .i64 256)).run Try.prog w) R fun t10 w =>
  cond t10 (join (upd (mix [10,4,5,15,9] g2 e2) 10 t10) (fun j3 =>
  opv ((Instr.index 25 t8 (g2 9)).run Try.prog w) R fun t12 w =>
  opv ((convert 3 5 (g2 9)).run Try.prog w) R fun t14 w =>
  callF Try.prog 18 #[t14] w R fun t15 w =>
  cond t15 (opv ((convert 3 5 (g2 9)).run Try.prog w) R fun t19 w =>
  opu ((Instr.mapUpdate 54 t6 t12 t19).run Try.prog w) R fun _ w =>
  j3 (upd (upd (upd (upd (mix [10,4,5,15,9] g2 e2) 10 t10) 4 (g2 9)) 5 t12) 15 t15) w)
  (j3 (upd (upd (upd (upd (mix [10,4,5,15,9] g2 e2) 10 t10) 4 (g2 9)) 5 t12) 15 t15) w)) fun e3 g3 w =>
  opv ((binOp .add 3 (g2 9) (.int .i64 1)).run Try.prog w) R fun t20 w =>
  j2 (upd (mix [4,5,15] g3 e3) 9 t20) w)
  (j1 (upd (mix [10,4,5,15,9] g2 e2) 10 t10) w)) fun e1 g1 w =>
  R (.returned t6) w
theorem F31.eq (R : Ending → World → Prop) (w : World) (a0 : Value) : F31 R w a0 = shF Try.prog 31 [0,2,3,4,5,8,9,10,15] [a0] R w := by kernel_rfl
theorem F31.calls {R : Ending → World → Prop} {w : World} {a0 : Value} (h : F31 R w a0) : Calls Try.prog 31 #[a0] w R := shF_sound (F31.eq R w a0 ▸ h)

end Go.Proofs.Ytaaajfklikccaaa
