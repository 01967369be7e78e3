/-
  Shallow forms of functions of the loaded program, each tied to it. No condition.
-/
import Derived.Test.YtojcbhkhfcddnaaDoorProg
import Derived.Test.YtojcbhkhfcddnaaDoorShSound
import Derived.KernelRfl
namespace Go.Proofs.YtojcbhkhfcddnaaDoor
open Go Go.Sh
set_option linter.unusedVariables false
set_option maxRecDepth 100000
/-- greenscreen/greenscreenlaw14.PlanePlays -/
def F3 (R : Ending → World → Prop) (w : World) (a0 a1 : Value) : Prop :=
  opv ((Instr.box 23 a0).run Tryd.prog w) R fun t2 w =>
  callF Tryd.prog 8 #[] w R fun t14 w =>
  opv ((Op.unary .not t14).run Tryd.prog w) R fun t15 w =>
  cond t15 (R (.returned (.bool false)) w)
  (opv ((Builtin.len_ #[24] 3 #[a1]).run Tryd.prog w) R fun t17 w =>
  opv ((binOp .gtr 3 t17 (.int .i64 40)).run Tryd.prog w) R fun t18 w =>
  gd t18 false (fun K => opv ((Instr.fieldAt 23 t2 0).run Tryd.prog w) R K) w fun t20 w =>
  gd t18 false (fun K => opv ((Instr.loadAt 3 t20).run Tryd.prog w) R K) w fun t21 w =>
  gd t18 false (fun K => opv ((Instr.fieldAt 23 t2 1).run Tryd.prog w) R K) w fun t22 w =>
  gd t18 false (fun K => opv ((Instr.loadAt 3 t22).run Tryd.prog w) R K) w fun t23 w =>
  gd t18 false (fun K => opv ((binOp .mul 3 t21 t23).run Tryd.prog w) R K) w fun t24 w =>
  gd t18 false (fun K => opv ((binOp .gtr 3 t24 (.int .i64 200)).run Tryd.prog w) R K) w fun t25 w =>
  pick t18 (.bool true) t25 w fun t26 w =>
  cond t26 (R (.returned (.bool true)) w)
  (opv ((Instr.loadAt 23 t2).run Tryd.prog w) R fun t28 w =>
  callF Tryd.prog 9 #[t28] w R fun t29 w =>
  opv ((Instr.extract t29 0).run Tryd.prog w) R fun t30 w =>
  opv ((Instr.extract t29 1).run Tryd.prog w) R fun t31 w =>
  opv ((Instr.loadAt 23 t2).run Tryd.prog w) R fun t33 w =>
  callF Tryd.prog 10 #[t33] w R fun t34 w =>
  opv ((Instr.extract t34 0).run Tryd.prog w) R fun t35 w =>
  opv ((Instr.extract t34 1).run Tryd.prog w) R fun t36 w =>
  opv ((Instr.alloc 32 true (.tuple #[])).run Tryd.prog w) R fun t7 w =>
  opu ((Instr.storeAt 32 t7 t35).run Tryd.prog w) R fun _ w =>
  opv ((binE true .neq 27 t31 (.int .i64 0)).run Tryd.prog w) R fun t38 w =>
  cond t38 (opv ((binE false .eql 3 t31 t36).run Tryd.prog w) R fun t41 w =>
  gd t41 true (fun K => K t30 w) w fun t43 w =>
  gd t41 true (fun K => opv ((binE true .eql 26 t43 (.pointer none)).run Tryd.prog w) R K) w fun t44 w =>
  pick t41 t44 (.bool false) w fun t45 w =>
  R (.returned t45) w)
  (opv ((binE true .neq 3 t36 (.int .i64 0)).run Tryd.prog w) R fun t47 w =>
  cond t47 (R (.returned (.bool false)) w)
  (join (upd (upd (upd (upd (upd (upd (upd (upd (upd (upd (ini [a0, a1]) 2 t2) 4 (.bool false)) 15 t15) 26 t26) 5 t30) 6 t31) 7 t7) 8 t36) 38 t38) 47 t47) (fun j1 =>
  opv ((Builtin.len_ #[24] 3 #[a1]).run Tryd.prog w) R fun t49 w =>
  loop (upd (upd (upd (upd (upd (upd (upd (upd (upd (upd (upd (upd (upd (ini [a0, a1]) 2 t2) 4 (.bool false)) 15 t15) 26 t26) 5 t30) 6 t31) 7 t7) 8 t36) 38 t38) 47 t47) 48 a1) 49 t49) 50 (.int .i64 0)) w fun e2 g2 w j2 =>
  opv ((binOp .lss 3 (g2 50) t49).run Tryd.prog w) R fun t51 w =>
  cond t51 (opv ((Instr.indexAt 24 a1 (g2 50)).run Tryd.prog w) R fun t52 w =>
  opv ((Instr.loadAt 38 t52).run Tryd.prog w) R fun t53 w =>
  opv ((Instr.alloc 38 true (.tuple #[])).run Tryd.prog w) R fun t10 w =>
  opu ((Instr.storeAt 38 t10 t53).run Tryd.prog w) R fun _ w =>
  join (upd (upd (mix [51,10,55,56,69,76,86,90,94,11,12,13,118,119,131,4,50] g2 e2) 51 t51) 10 t10) (fun j3 =>
  opv ((Instr.fieldAt 38 t10 0).run Tryd.prog w) R fun t54 w =>
  opv ((Instr.loadAt 3 t54).run Tryd.prog w) R fun t55 w =>
  join (upd (upd (upd (mix [51,10,55,56,69,76,86,90,94,11,12,13,118,119,131,4,50] g2 e2) 51 t51) 10 t10) 55 t55) (fun j4 =>
  opv ((binE true .eql 3 t55 (.int .i64 0)).run Tryd.prog w) R fun t57 w =>
  cond t57 (j4 (upd (upd (upd (upd (mix [51,10,55,56,69,76,86,90,94,11,12,13,118,119,131,4,50] g2 e2) 51 t51) 10 t10) 55 t55) 56 t57) w)
  (opv ((binE true .eql 3 t55 (.int .i64 1)).run Tryd.prog w) R fun t58 w =>
  j4 (upd (upd (upd (upd (upd (mix [51,10,55,56,69,76,86,90,94,11,12,13,118,119,131,4,50] g2 e2) 51 t51) 10 t10) 55 t55) 56 t57) 56 t58) w)) fun e4 g4 w =>
  cond (g4 56) (drawn w fun T w =>
  qop T w (fun w K => opv ((Instr.fieldAt 38 t10 1).run Tryd.prog w) noR K) fun t60 =>
  qop T w (fun w K => opv ((Instr.loadAt 3 t60).run Tryd.prog w) noR K) fun t61 =>
  qop T w (fun w K => opv ((Instr.fieldAt 38 t10 3).run Tryd.prog w) noR K) fun t62 =>
  qop T w (fun w K => opv ((Instr.loadAt 36 t62).run Tryd.prog w) noR K) fun t63 =>
  qop T w (fun w K => opv ((Instr.loadAt 32 t7).run Tryd.prog w) noR K) fun t65 =>
  qop T w (fun w K => opv ((Instr.fieldAt 38 t10 1).run Tryd.prog w) noR K) fun t66 =>
  qop T w (fun w K => opv ((Instr.loadAt 3 t66).run Tryd.prog w) noR K) fun t67 =>
  ext w fun w =>
  lop T w (fun w K => callF Tryd.prog 11 #[t30, t61, t63] w R K) fun t64 w =>
  qop T w (fun w K => callF Tryd.prog 12 #[t65, t67] w noR K) fun t68 =>
  qop T w (fun w K => opv ((binE false .neq 4 t64 t68).run Tryd.prog w) noR K) fun t69 =>
  ext w fun w =>
  cond t69 (R (.returned (.bool false)) w)
  (opv ((Instr.loadAt 32 t7).run Tryd.prog w) R fun t70 w =>
  opv ((Instr.fieldAt 38 t10 1).run Tryd.prog w) R fun t71 w =>
  opv ((Instr.loadAt 3 t71).run Tryd.prog w) R fun t72 w =>
  opv ((Instr.fieldAt 38 t10 3).run Tryd.prog w) R fun t73 w =>
  opv ((Instr.loadAt 36 t73).run Tryd.prog w) R fun t74 w =>
  callF Tryd.prog 13 #[t70, t72, t74] w R fun t75 w =>
  opu ((Instr.storeAt 32 t7 t75).run Tryd.prog w) R fun _ w =>
  j3 (upd (mix [56] g4 e4) 69 t69) w))
  (opv ((binE true .eql 3 t55 (.int .i64 2)).run Tryd.prog w) R fun t77 w =>
  cond t77 (drawn w fun T w =>
  qop T w (fun w K => opv ((Instr.fieldAt 38 t10 1).run Tryd.prog w) noR K) fun t79 =>
  qop T w (fun w K => opv ((Instr.loadAt 3 t79).run Tryd.prog w) noR K) fun t80 =>
  qop T w (fun w K => opv ((Instr.loadAt 32 t7).run Tryd.prog w) noR K) fun t82 =>
  qop T w (fun w K => opv ((Instr.fieldAt 38 t10 1).run Tryd.prog w) noR K) fun t83 =>
  qop T w (fun w K => opv ((Instr.loadAt 3 t83).run Tryd.prog w) noR K) fun t84 =>
  ext w fun w =>
  lop T w (fun w K => callF Tryd.prog 14 #[t30, t80] w R K) fun t81 w =>
  qop T w (fun w K => callF Tryd.prog 12 #[t82, t84] w noR K) fun t85 =>
  qop T w (fun w K => opv ((binE false .neq 4 t81 t85).run Tryd.prog w) noR K) fun t86 =>
  ext w fun w =>
  cond t86 (R (.returned (.bool false)) w)
  (opv ((Instr.loadAt 32 t7).run Tryd.prog w) R fun t87 w =>
  opv ((Instr.fieldAt 38 t10 1).run Tryd.prog w) R fun t88 w =>
  opv ((Instr.loadAt 3 t88).run Tryd.prog w) R fun t89 w =>
  callF Tryd.prog 12 #[t87, t89] w R fun t90 w =>
  cond t90 (opv ((Instr.fieldAt 38 t10 1).run Tryd.prog w) R fun t91 w =>
  opv ((Instr.loadAt 3 t91).run Tryd.prog w) R fun t92 w =>
  opv ((Instr.fieldAt 32 t7 2).run Tryd.prog w) R fun t93 w =>
  opu ((Instr.storeAt 3 t93 t92).run Tryd.prog w) R fun _ w =>
  j3 (upd (upd (upd (mix [56] g4 e4) 76 t77) 86 t86) 90 t90) w)
  (j3 (upd (upd (upd (mix [56] g4 e4) 76 t77) 86 t86) 90 t90) w)))
  (opv ((binE true .eql 3 t55 (.int .i64 3)).run Tryd.prog w) R fun t95 w =>
  cond t95 (opv ((Instr.fieldAt 38 t10 1).run Tryd.prog w) R fun t97 w =>
  opv ((Instr.loadAt 3 t97).run Tryd.prog w) R fun t98 w =>
  opv ((Instr.fieldAt 38 t10 2).run Tryd.prog w) R fun t99 w =>
  opv ((Instr.loadAt 3 t99).run Tryd.prog w) R fun t100 w =>
  opv ((Instr.fieldAt 38 t10 3).run Tryd.prog w) R fun t101 w =>
  opv ((Instr.loadAt 36 t101).run Tryd.prog w) R fun t102 w =>
  callF Tryd.prog 15 #[t30, t98, t100, t102] w R fun t103 w =>
  opv ((Instr.loadAt 32 t7).run Tryd.prog w) R fun t105 w =>
  opv ((Instr.fieldAt 38 t10 1).run Tryd.prog w) R fun t106 w =>
  opv ((Instr.loadAt 3 t106).run Tryd.prog w) R fun t107 w =>
  opv ((Instr.fieldAt 38 t10 2).run Tryd.prog w) R fun t108 w =>
  opv ((Instr.loadAt 3 t108).run Tryd.prog w) R fun t109 w =>
  opv ((Instr.fieldAt 38 t10 3).run Tryd.prog w) R fun t110 w =>
  opv ((Instr.loadAt 36 t110).run Tryd.prog w) R fun t111 w =>
  callF Tryd.prog 16 #[t105, t107, t109, t111] w R fun t112 w =>
  opv ((Instr.extract t112 0).run Tryd.prog w) R fun t113 w =>
  opv ((Instr.extract t112 1).run Tryd.prog w) R fun t114 w =>
  opv ((Instr.alloc 32 true (.tuple #[])).run Tryd.prog w) R fun t12 w =>
  opu ((Instr.storeAt 32 t12 t113).run Tryd.prog w) R fun _ w =>
  opv ((Instr.loadAt 32 t12).run Tryd.prog w) R fun t115 w =>
  opu ((Instr.storeAt 32 t7 t115).run Tryd.prog w) R fun _ w =>
  opv ((binE false .neq 3 t103 t114).run Tryd.prog w) R fun t118 w =>
  cond t118 (R (.returned (.bool false)) w)
  (j3 (upd (upd (upd (upd (upd (upd (mix [56] g4 e4) 76 t77) 94 t95) 11 t103) 12 t12) 13 t114) 118 t118) w))
  (opv ((binE true .eql 3 t55 (.int .i64 4)).run Tryd.prog w) R fun t120 w =>
  cond t120 (callF Tryd.prog 17 #[t30] w R fun t122 w =>
  opv ((Instr.loadAt 23 t2).run Tryd.prog w) R fun t124 w =>
  callF Tryd.prog 10 #[t124] w R fun t125 w =>
  opv ((Instr.extract t125 0).run Tryd.prog w) R fun t126 w =>
  opv ((Instr.extract t125 1).run Tryd.prog w) R fun t127 w =>
  opu ((Instr.storeAt 32 t7 t126).run Tryd.prog w) R fun _ w =>
  j3 (upd (upd (upd (mix [56] g4 e4) 76 t77) 94 t95) 119 t120) w)
  (j3 (upd (upd (upd (mix [56] g4 e4) 76 t77) 94 t95) 119 t120) w))))) fun e3 g3 w =>
  opv ((Instr.loadAt 32 t7).run Tryd.prog w) R fun t129 w =>
  callF Tryd.prog 18 #[t30, t129] w R fun t130 w =>
  opv ((Op.unary .not t130).run Tryd.prog w) R fun t131 w =>
  cond t131 (R (.returned (.bool false)) w)
  (opv ((binOp .add 3 (g2 50) (.int .i64 1)).run Tryd.prog w) R fun t132 w =>
  j2 (upd (upd (mix [55,56,69,76,86,90,94,11,12,13,118,4,119] g3 e3) 131 t131) 50 t132) w))
  (j1 (upd (mix [51,10,55,56,69,76,86,90,94,11,12,13,118,119,131,4,50] g2 e2) 51 t51) w)) fun e1 g1 w =>
  callF Tryd.prog 19 #[t30, (.int .i64 (-1))] w R fun t134 w =>
  opv ((Instr.build 36 #[]).run Tryd.prog w) R fun t135 w =>
  opv ((binE false .eql 36 t134 t135).run Tryd.prog w) R fun t136 w =>
  gd t136 true (fun K => K t30 w) w fun t138 w =>
  gd t136 true (fun K => K t30 w) w fun t139 w =>
  gd t136 true (fun K => callF Tryd.prog 20 #[t139] w R K) w fun t140 w =>
  gd t136 true (fun K => callF Tryd.prog 19 #[t138, t140] w R K) w fun t141 w =>
  gd t136 true (fun K => opv ((Instr.build 36 #[]).run Tryd.prog w) R K) w fun t142 w =>
  gd t136 true (fun K => opv ((binE false .eql 36 t141 t142).run Tryd.prog w) R K) w fun t143 w =>
  pick t136 t143 (.bool false) w fun t144 w =>
  R (.returned t144) w))))
theorem F3.eq (R : Ending → World → Prop) (w : World) (a0 a1 : Value) : F3 R w a0 a1 = shF Tryd.prog 3 [0,1,2,4,5,6,7,8,10,11,12,13,15,26,38,47,48,49,50,51,55,56,69,76,86,90,94,118,119,131] [a0, a1] R w := by kernel_rfl
theorem F3.calls {R : Ending → World → Prop} {w : World} {a0 a1 : Value} (h : F3 R w a0 a1) : Calls Tryd.prog 3 #[a0, a1] w R := shF_sound (F3.eq R w a0 a1 ▸ h)

/-- greenscreen/greenscreenlaw14.PlaneTexts -/
def F4 (R : Ending → World → Prop) (w : World) (a0 a1 a2 a3 a4 a5 : Value) : Prop :=
  opv ((Instr.box 23 a0).run Tryd.prog w) R fun t6 w =>
  callF Tryd.prog 8 #[] w R fun t19 w =>
  opv ((Op.unary .not t19).run Tryd.prog w) R fun t20 w =>
  cond t20 (R (.returned (.bool false)) w)
  (opv ((Instr.loadAt 23 t6).run Tryd.prog w) R fun t22 w =>
  callF Tryd.prog 21 #[t22, a1] w R fun t24 w =>
  opv ((Instr.extract t24 0).run Tryd.prog w) R fun t25 w =>
  opv ((Instr.extract t24 1).run Tryd.prog w) R fun t26 w =>
  opv ((Instr.extract t24 2).run Tryd.prog w) R fun t27 w =>
  opv ((Instr.alloc 32 true (.tuple #[])).run Tryd.prog w) R fun t14 w =>
  opu ((Instr.storeAt 32 t14 t26).run Tryd.prog w) R fun _ w =>
  opv ((Op.unary .not t27).run Tryd.prog w) R fun t29 w =>
  gd t29 false (fun K => K a5 w) w fun t31 w =>
  gd t29 false (fun K => opv ((Builtin.len_ #[9] 3 #[t31]).run Tryd.prog w) R K) w fun t32 w =>
  gd t29 false (fun K => opv ((binOp .gtr 3 t32 (.int .i64 100)).run Tryd.prog w) R K) w fun t33 w =>
  pick t29 (.bool true) t33 w fun t34 w =>
  cond t34 (R (.returned (.bool true)) w)
  (callF Tryd.prog 22 #[t25, a2] w R fun t37 w =>
  opv ((Builtin.len_ #[51] 3 #[t37]).run Tryd.prog w) R fun t39 w =>
  opv ((Instr.fieldAt 23 t6 0).run Tryd.prog w) R fun t40 w =>
  opv ((Instr.loadAt 3 t40).run Tryd.prog w) R fun t41 w =>
  opv ((binE false .neq 3 t39 t41).run Tryd.prog w) R fun t42 w =>
  cond t42 (R (.returned (.bool false)) w)
  (join (upd (upd (upd (upd (upd (upd (upd (upd (upd (ini [a0, a1, a2, a3, a4, a5]) 6 t6) 12 (.bool false)) 20 t20) 14 t14) 13 t25) 15 t27) 34 t34) 16 t37) 42 t42) (fun j1 =>
  opv ((Builtin.len_ #[51] 3 #[t37]).run Tryd.prog w) R fun t44 w =>
  loop (upd (upd (upd (upd (upd (upd (upd (upd (upd (upd (upd (upd (ini [a0, a1, a2, a3, a4, a5]) 6 t6) 12 (.bool false)) 20 t20) 14 t14) 13 t25) 15 t27) 34 t34) 16 t37) 42 t42) 43 t37) 44 t44) 45 (.int .i64 0)) w fun e2 g2 w j2 =>
  opv ((binOp .lss 3 (g2 45) t44).run Tryd.prog w) R fun t46 w =>
  cond t46 (opv ((Instr.indexAt 51 t37 (g2 45)).run Tryd.prog w) R fun t48 w =>
  opv ((Instr.loadAt 9 t48).run Tryd.prog w) R fun t49 w =>
  opv ((Instr.loadAt 32 t14).run Tryd.prog w) R fun t51 w =>
  opv ((Instr.fieldAt 23 t6 1).run Tryd.prog w) R fun t54 w =>
  opv ((Instr.loadAt 3 t54).run Tryd.prog w) R fun t55 w =>
  opv ((binOp .mul 3 (g2 45) t55).run Tryd.prog w) R fun t56 w =>
  opv ((Instr.fieldAt 23 t6 1).run Tryd.prog w) R fun t57 w =>
  opv ((Instr.loadAt 3 t57).run Tryd.prog w) R fun t58 w =>
  callF Tryd.prog 23 #[t51, a2, t56, t58] w R fun t59 w =>
  opv ((binE false .neq 9 t49 t59).run Tryd.prog w) R fun t60 w =>
  cond t60 (R (.returned (.bool false)) w)
  (opv ((binOp .add 3 (g2 45) (.int .i64 1)).run Tryd.prog w) R fun t61 w =>
  j2 (upd (upd (upd (upd (upd (mix [46,17,18,60,12,45] g2 e2) 46 t46) 17 (g2 45)) 18 t49) 60 t60) 45 t61) w))
  (j1 (upd (mix [46,17,18,60,12,45] g2 e2) 46 t46) w)) fun e1 g1 w =>
  drawn w fun T w =>
  qop T w (fun w K => callF Tryd.prog 24 #[t25, a2, a3, a4] w noR K) fun t66 =>
  qop T w (fun w K => opv ((Instr.loadAt 32 t14).run Tryd.prog w) noR K) fun t67 =>
  qop T w (fun w K => callF Tryd.prog 23 #[t67, a2, a3, a4] w noR K) fun t71 =>
  qop T w (fun w K => opv ((binE false .eql 9 t66 t71).run Tryd.prog w) noR K) fun t72 =>
  qop T w (fun w K => gd t72 true (fun K => K t25 w) w K) fun t74 =>
  qop T w (fun w K => gd t72 true (fun K => K a2 w) w K) fun t75 =>
  qop T w (fun w K => gd t72 true (fun K => K a5 w) w K) fun t76 =>
  qop T w (fun w K => gd t72 true (fun K => callF Tryd.prog 25 #[t74, t75, t76] w noR K) w K) fun t77 =>
  qop T w (fun w K => gd t72 true (fun K => opv ((Instr.loadAt 32 t14).run Tryd.prog w) noR K) w K) fun t78 =>
  qop T w (fun w K => gd t72 true (fun K => K a2 w) w K) fun t79 =>
  qop T w (fun w K => gd t72 true (fun K => K a5 w) w K) fun t80 =>
  qop T w (fun w K => gd t72 true (fun K => callF Tryd.prog 26 #[t78, t79, t80] w noR K) w K) fun t81 =>
  qop T w (fun w K => gd t72 true (fun K => opv ((binE false .eql 3 t77 t81).run Tryd.prog w) noR K) w K) fun t82 =>
  qop T w (fun w K => pick t72 t82 (.bool false) w K) fun t83 =>
  ext w fun w =>
  R (.returned t83) w)))
theorem F4.eq (R : Ending → World → Prop) (w : World) (a0 a1 a2 a3 a4 a5 : Value) : F4 R w a0 a1 a2 a3 a4 a5 = shF Tryd.prog 4 [0,1,2,3,4,5,6,12,13,14,15,16,17,18,20,34,42,43,44,45,46,60] [a0, a1, a2, a3, a4, a5] R w := by kernel_rfl
theorem F4.calls {R : Ending → World → Prop} {w : World} {a0 a1 a2 a3 a4 a5 : Value} (h : F4 R w a0 a1 a2 a3 a4 a5) : Calls Tryd.prog 4 #[a0, a1, a2, a3, a4, a5] w R := shF_sound (F4.eq R w a0 a1 a2 a3 a4 a5 ▸ h)

/-- greenscreen/greenscreenlaw14.PlaneFinds -/
def F5 (R : Ending → World → Prop) (w : World) (a0 a1 a2 a3 a4 : Value) : Prop :=
  opv ((Instr.box 23 a0).run Tryd.prog w) R fun t5 w =>
  callF Tryd.prog 8 #[] w R fun t20 w =>
  opv ((Op.unary .not t20).run Tryd.prog w) R fun t21 w =>
  cond t21 (R (.returned (.bool false)) w)
  (opv ((Instr.loadAt 23 t5).run Tryd.prog w) R fun t23 w =>
  callF Tryd.prog 21 #[t23, a1] w R fun t25 w =>
  opv ((Instr.extract t25 0).run Tryd.prog w) R fun t26 w =>
  opv ((Instr.extract t25 1).run Tryd.prog w) R fun t27 w =>
  opv ((Instr.extract t25 2).run Tryd.prog w) R fun t28 w =>
  opv ((Instr.alloc 32 true (.tuple #[])).run Tryd.prog w) R fun t12 w =>
  opu ((Instr.storeAt 32 t12 t27).run Tryd.prog w) R fun _ w =>
  opv ((Op.unary .not t28).run Tryd.prog w) R fun t30 w =>
  cond t30 (R (.returned (.bool true)) w)
  (join (upd (upd (upd (upd (upd (upd (upd (ini [a0, a1, a2, a3, a4]) 5 t5) 10 (.bool false)) 21 t21) 11 t26) 13 t28) 30 t30) 14 (.string ⟨#[]⟩)) (fun j1 =>
  callF Tryd.prog 22 #[t26, a2] w R fun t33 w =>
  opv ((Builtin.len_ #[51] 3 #[t33]).run Tryd.prog w) R fun t34 w =>
  loop (upd (upd (upd (upd (upd (upd (upd (upd (upd (upd (ini [a0, a1, a2, a3, a4]) 5 t5) 10 (.bool false)) 21 t21) 11 t26) 13 t28) 30 t30) 14 (.string ⟨#[]⟩)) 33 t33) 34 t34) 35 (.int .i64 0)) w fun e2 g2 w j2 =>
  opv ((binOp .lss 3 (g2 35) t34).run Tryd.prog w) R fun t36 w =>
  cond t36 (opv ((Instr.indexAt 51 t33 (g2 35)).run Tryd.prog w) R fun t37 w =>
  opv ((Instr.loadAt 9 t37).run Tryd.prog w) R fun t38 w =>
  opv ((binOp .add 9 (g2 14) t38).run Tryd.prog w) R fun t41 w =>
  opv ((binOp .add 3 (g2 35) (.int .i64 1)).run Tryd.prog w) R fun t42 w =>
  j2 (upd (upd (upd (upd (mix [36,16,14,35] g2 e2) 36 t36) 16 t38) 14 t41) 35 t42) w)
  (j1 (upd (mix [36,16,14,35] g2 e2) 36 t36) w)) fun e1 g1 w =>
  callF Tryd.prog 20 #[t26] w R fun t47 w =>
  callF Tryd.prog 24 #[t26, a2, (.int .i64 0), t47] w R fun t48 w =>
  opv ((binE false .neq 9 (g1 14) t48).run Tryd.prog w) R fun t49 w =>
  cond t49 (R (.returned (.bool false)) w)
  (opv ((binOp .and 3 a3 (.int .i64 4095)).run Tryd.prog w) R fun t51 w =>
  callF Tryd.prog 20 #[t26] w R fun t53 w =>
  opv ((binOp .rem 3 t51 t53).run Tryd.prog w) R fun t54 w =>
  opv ((binOp .and 3 a4 (.int .i64 255)).run Tryd.prog w) R fun t56 w =>
  callF Tryd.prog 20 #[t26] w R fun t58 w =>
  opv ((binOp .add 3 t58 (.int .i64 1)).run Tryd.prog w) R fun t59 w =>
  opv ((binOp .rem 3 t56 t59).run Tryd.prog w) R fun t60 w =>
  callF Tryd.prog 24 #[t26, a2, t54, t60] w R fun t65 w =>
  callF Tryd.prog 25 #[t26, a2, t65] w R fun t69 w =>
  opv ((binOp .lss 3 t69 (.int .i64 0)).run Tryd.prog w) R fun t71 w =>
  gd t71 false (fun K => K t69 w) w fun t73 w =>
  gd t71 false (fun K => K t54 w) w fun t74 w =>
  gd t71 false (fun K => opv ((binOp .gtr 3 t73 t74).run Tryd.prog w) R K) w fun t75 w =>
  pick t71 (.bool true) t75 w fun t76 w =>
  gd t76 false (fun K => K t26 w) w fun t78 w =>
  gd t76 false (fun K => K a2 w) w fun t79 w =>
  gd t76 false (fun K => K t69 w) w fun t80 w =>
  gd t76 false (fun K => K t60 w) w fun t81 w =>
  gd t76 false (fun K => callF Tryd.prog 24 #[t78, t79, t80, t81] w R K) w fun t82 w =>
  gd t76 false (fun K => K t65 w) w fun t83 w =>
  gd t76 false (fun K => opv ((binE false .neq 9 t82 t83).run Tryd.prog w) R K) w fun t84 w =>
  pick t76 (.bool true) t84 w fun t85 w =>
  cond t85 (R (.returned (.bool false)) w)
  (join (upd (upd (upd (upd (upd (upd (mix [33,34,36,16,14,35] g1 e1) 49 t49) 3 t54) 4 t60) 17 t65) 18 t69) 85 t85) (fun j3 =>
  loop (upd (upd (upd (upd (upd (upd (upd (upd (mix [33,34,36,16,14,35] g1 e1) 49 t49) 3 t54) 4 t60) 17 t65) 18 t69) 85 t85) 86 t69) 87 (.int .i64 0)) w fun e4 g4 w j4 =>
  opv ((binOp .lss 3 (g4 87) t69).run Tryd.prog w) R fun t88 w =>
  cond t88 (opv ((binOp .gtr 3 t60 (.int .i64 0)).run Tryd.prog w) R fun t91 w =>
  gd t91 true (fun K => K t26 w) w fun t93 w =>
  gd t91 true (fun K => K a2 w) w fun t94 w =>
  gd t91 true (fun K => K (g4 87) w) w fun t95 w =>
  gd t91 true (fun K => K t60 w) w fun t96 w =>
  gd t91 true (fun K => callF Tryd.prog 24 #[t93, t94, t95, t96] w R K) w fun t97 w =>
  gd t91 true (fun K => K t65 w) w fun t98 w =>
  gd t91 true (fun K => opv ((binE false .eql 9 t97 t98).run Tryd.prog w) R K) w fun t99 w =>
  pick t91 t99 (.bool false) w fun t100 w =>
  cond t100 (R (.returned (.bool false)) w)
  (opv ((binOp .add 3 (g4 87) (.int .i64 1)).run Tryd.prog w) R fun t101 w =>
  j4 (upd (upd (upd (upd (mix [88,19,100,10,87] g4 e4) 88 t88) 19 (g4 87)) 100 t100) 87 t101) w))
  (j3 (upd (mix [88,19,100,10,87] g4 e4) 88 t88) w)) fun e3 g3 w =>
  opv ((binOp .add 9 (g1 14) (.string ⟨#[120]⟩)).run Tryd.prog w) R fun t105 w =>
  callF Tryd.prog 25 #[t26, a2, t105] w R fun t106 w =>
  opv ((binE true .eql 3 t106 (.int .i64 (-1))).run Tryd.prog w) R fun t107 w =>
  R (.returned t107) w))))
theorem F5.eq (R : Ending → World → Prop) (w : World) (a0 a1 a2 a3 a4 : Value) : F5 R w a0 a1 a2 a3 a4 = shF Tryd.prog 5 [0,1,2,3,4,5,10,11,13,14,16,17,18,19,21,30,33,34,35,36,49,85,86,87,88,100] [a0, a1, a2, a3, a4] R w := by kernel_rfl
theorem F5.calls {R : Ending → World → Prop} {w : World} {a0 a1 a2 a3 a4 : Value} (h : F5 R w a0 a1 a2 a3 a4) : Calls Tryd.prog 5 #[a0, a1, a2, a3, a4] w R := shF_sound (F5.eq R w a0 a1 a2 a3 a4 ▸ h)

/-- greenscreen/greenscreenlaw14.PlaneClones -/
def F6 (R : Ending → World → Prop) (w : World) (a0 a1 a2 : Value) : Prop :=
  opv ((Instr.box 23 a0).run Tryd.prog w) R fun t3 w =>
  callF Tryd.prog 8 #[] w R fun t16 w =>
  opv ((Op.unary .not t16).run Tryd.prog w) R fun t17 w =>
  cond t17 (R (.returned (.bool false)) w)
  (opv ((Instr.loadAt 23 t3).run Tryd.prog w) R fun t19 w =>
  callF Tryd.prog 21 #[t19, a1] w R fun t21 w =>
  opv ((Instr.extract t21 0).run Tryd.prog w) R fun t22 w =>
  opv ((Instr.extract t21 1).run Tryd.prog w) R fun t23 w =>
  opv ((Instr.extract t21 2).run Tryd.prog w) R fun t24 w =>
  opv ((Instr.alloc 32 true (.tuple #[])).run Tryd.prog w) R fun t8 w =>
  opu ((Instr.storeAt 32 t8 t23).run Tryd.prog w) R fun _ w =>
  opv ((Op.unary .not t24).run Tryd.prog w) R fun t26 w =>
  gd t26 false (fun K => K a2 w) w fun t28 w =>
  gd t26 false (fun K => opv ((Builtin.len_ #[24] 3 #[t28]).run Tryd.prog w) R K) w fun t29 w =>
  gd t26 false (fun K => opv ((binOp .gtr 3 t29 (.int .i64 40)).run Tryd.prog w) R K) w fun t30 w =>
  pick t26 (.bool true) t30 w fun t31 w =>
  cond t31 (R (.returned (.bool true)) w)
  (join (upd (upd (upd (upd (upd (upd (ini [a0, a1, a2]) 3 t3) 6 (.bool false)) 17 t17) 7 t22) 9 t24) 31 t31) (fun j1 =>
  opv ((Builtin.len_ #[24] 3 #[a2]).run Tryd.prog w) R fun t33 w =>
  loop (upd (upd (upd (upd (upd (upd (upd (upd (upd (ini [a0, a1, a2]) 3 t3) 6 (.bool false)) 17 t17) 7 t22) 9 t24) 31 t31) 32 a2) 33 t33) 34 (.int .i64 0)) w fun e2 g2 w j2 =>
  opv ((binOp .lss 3 (g2 34) t33).run Tryd.prog w) R fun t35 w =>
  cond t35 (join (upd (mix [35,11,12,43,13,14,95,97,99,15,112,6,98,34] g2 e2) 35 t35) (fun j3 =>
  opv ((Instr.indexAt 24 a2 (g2 34)).run Tryd.prog w) R fun t36 w =>
  opv ((Instr.loadAt 38 t36).run Tryd.prog w) R fun t37 w =>
  opv ((Instr.alloc 38 true (.tuple #[])).run Tryd.prog w) R fun t11 w =>
  opu ((Instr.storeAt 38 t11 t37).run Tryd.prog w) R fun _ w =>
  callF Tryd.prog 27 #[t22] w R fun t39 w =>
  callF Tryd.prog 28 #[t22, t39] w R fun t42 w =>
  opv ((Op.unary .not t42).run Tryd.prog w) R fun t43 w =>
  cond t43 (R (.returned (.bool false)) w)
  (drawn w fun T w =>
  qop T w (fun w K => opv ((Instr.fieldAt 38 t11 1).run Tryd.prog w) noR K) fun t44 =>
  qop T w (fun w K => opv ((Instr.loadAt 3 t44).run Tryd.prog w) noR K) fun t45 =>
  qop T w (fun w K => opv ((binOp .and 3 t45 (.int .i64 4095)).run Tryd.prog w) noR K) fun t46 =>
  qop T w (fun w K => callF Tryd.prog 20 #[t22] w noR K) fun t48 =>
  qop T w (fun w K => opv ((binOp .rem 3 t46 t48).run Tryd.prog w) noR K) fun t49 =>
  ext w fun w =>
  callF Tryd.prog 19 #[t39, t49] w R fun t52 w =>
  opv ((Instr.alloc 36 true (.tuple #[])).run Tryd.prog w) R fun t14 w =>
  opu ((Instr.storeAt 36 t14 t52).run Tryd.prog w) R fun _ w =>
  opv ((Instr.fieldAt 38 t11 3).run Tryd.prog w) R fun t55 w =>
  opv ((Instr.loadAt 36 t55).run Tryd.prog w) R fun t56 w =>
  callF Tryd.prog 11 #[t22, t49, t56] w R fun t57 w =>
  callF Tryd.prog 14 #[t22, t49] w R fun t60 w =>
  drawn w fun T w =>
  qop T w (fun w K => callF Tryd.prog 19 #[t22, t49] w noR K) fun t63 =>
  qop T w (fun w K => opv ((Instr.fieldAt 38 t11 3).run Tryd.prog w) noR K) fun t64 =>
  qop T w (fun w K => opv ((Instr.loadAt 36 t64).run Tryd.prog w) noR K) fun t65 =>
  qop T w (fun w K => opv ((binE false .neq 36 t63 t65).run Tryd.prog w) noR K) fun t66 =>
  qop T w (fun w K => gd t66 false (fun K => K t39 w) w K) fun t68 =>
  qop T w (fun w K => gd t66 false (fun K => K t49 w) w K) fun t69 =>
  qop T w (fun w K => gd t66 false (fun K => callF Tryd.prog 19 #[t68, t69] w noR K) w K) fun t70 =>
  qop T w (fun w K => gd t66 false (fun K => opv ((Instr.loadAt 36 t14).run Tryd.prog w) noR K) w K) fun t71 =>
  qop T w (fun w K => gd t66 false (fun K => opv ((binE false .neq 36 t70 t71).run Tryd.prog w) noR K) w K) fun t72 =>
  qop T w (fun w K => pick t66 (.bool true) t72 w K) fun t73 =>
  qop T w (fun w K => gd t73 false (fun K => K t22 w) w K) fun t75 =>
  qop T w (fun w K => gd t73 false (fun K => callF Tryd.prog 29 #[t75] w noR K) w K) fun t76 =>
  qop T w (fun w K => gd t73 false (fun K => K t49 w) w K) fun t77 =>
  qop T w (fun w K => gd t73 false (fun K => opv ((binE false .neq 3 t76 t77).run Tryd.prog w) noR K) w K) fun t78 =>
  qop T w (fun w K => pick t73 (.bool true) t78 w K) fun t79 =>
  qop T w (fun w K => gd t79 false (fun K => K t22 w) w K) fun t81 =>
  qop T w (fun w K => gd t79 false (fun K => K t39 w) w K) fun t82 =>
  qop T w (fun w K => gd t79 false (fun K => callF Tryd.prog 28 #[t81, t82] w noR K) w K) fun t83 =>
  qop T w (fun w K => gd t79 false (fun K => opv ((Instr.loadAt 36 t14).run Tryd.prog w) noR K) w K) fun t84 =>
  qop T w (fun w K => gd t79 false (fun K => opv ((Instr.fieldAt 38 t11 3).run Tryd.prog w) noR K) w K) fun t85 =>
  qop T w (fun w K => gd t79 false (fun K => opv ((Instr.loadAt 36 t85).run Tryd.prog w) noR K) w K) fun t86 =>
  qop T w (fun w K => gd t79 false (fun K => opv ((binE false .eql 36 t84 t86).run Tryd.prog w) noR K) w K) fun t87 =>
  qop T w (fun w K => gd t79 false (fun K => K t87 w) w K) fun t88 =>
  qop T w (fun w K => gd t88 true (fun K => K t39 w) w K) fun t89 =>
  qop T w (fun w K => gd t88 true (fun K => callF Tryd.prog 29 #[t89] w noR K) w K) fun t90 =>
  qop T w (fun w K => gd t88 true (fun K => K t49 w) w K) fun t91 =>
  qop T w (fun w K => gd t88 true (fun K => opv ((binE false .eql 3 t90 t91).run Tryd.prog w) noR K) w K) fun t92 =>
  qop T w (fun w K => gd t79 false (fun K => pick t88 t92 (.bool false) w K) w K) fun t93 =>
  qop T w (fun w K => gd t79 false (fun K => opv ((binE false .neq 4 t83 t93).run Tryd.prog w) noR K) w K) fun t94 =>
  qop T w (fun w K => pick t79 (.bool true) t94 w K) fun t95 =>
  ext w fun w =>
  cond t95 (R (.returned (.bool false)) w)
  (callF Tryd.prog 20 #[t22] w R fun t97 w =>
  loop (upd (upd (upd (upd (upd (upd (upd (upd (upd (mix [35,11,12,43,13,14,95,97,99,15,112,6,98,34] g2 e2) 35 t35) 11 t11) 12 t39) 43 t43) 13 t49) 14 t14) 95 t95) 97 t97) 98 (.int .i64 0)) w fun e4 g4 w j4 =>
  opv ((binOp .lss 3 (g4 98) t97).run Tryd.prog w) R fun t99 w =>
  cond t99 (opv ((binE false .neq 3 (g4 98) t49).run Tryd.prog w) R fun t103 w =>
  gd t103 true (fun K => K t22 w) w fun t105 w =>
  gd t103 true (fun K => K (g4 98) w) w fun t106 w =>
  gd t103 true (fun K => callF Tryd.prog 19 #[t105, t106] w R K) w fun t107 w =>
  gd t103 true (fun K => K t39 w) w fun t108 w =>
  gd t103 true (fun K => K (g4 98) w) w fun t109 w =>
  gd t103 true (fun K => callF Tryd.prog 19 #[t108, t109] w R K) w fun t110 w =>
  gd t103 true (fun K => opv ((binE false .neq 36 t107 t110).run Tryd.prog w) R K) w fun t111 w =>
  pick t103 t111 (.bool false) w fun t112 w =>
  cond t112 (R (.returned (.bool false)) w)
  (opv ((binOp .add 3 (g4 98) (.int .i64 1)).run Tryd.prog w) R fun t113 w =>
  j4 (upd (upd (upd (upd (mix [99,15,112,6,98] g4 e4) 99 t99) 15 (g4 98)) 112 t112) 98 t113) w))
  (j3 (upd (mix [99,15,112,6,98] g4 e4) 99 t99) w)))) fun e3 g3 w =>
  opv ((binOp .add 3 (g2 34) (.int .i64 1)).run Tryd.prog w) R fun t114 w =>
  j2 (upd (mix [11,12,43,13,14,95,97,99,15,112,6,98] g3 e3) 34 t114) w)
  (j1 (upd (mix [35,11,12,43,13,14,95,97,99,15,112,6,98,34] g2 e2) 35 t35) w)) fun e1 g1 w =>
  R (.returned (.bool true)) w))
theorem F6.eq (R : Ending → World → Prop) (w : World) (a0 a1 a2 : Value) : F6 R w a0 a1 a2 = shF Tryd.prog 6 [0,1,2,3,6,7,9,11,12,13,14,15,17,31,32,33,34,35,43,95,97,98,99,112] [a0, a1, a2] R w := by kernel_rfl
theorem F6.calls {R : Ending → World → Prop} {w : World} {a0 a1 a2 : Value} (h : F6 R w a0 a1 a2) : Calls Tryd.prog 6 #[a0, a1, a2] w R := shF_sound (F6.eq R w a0 a1 a2 ▸ h)

/-- greenscreen/greenscreenlaw14.PlaneFills -/
def F7 (R : Ending → World → Prop) (w : World) (a0 a1 a2 a3 a4 : Value) : Prop :=
  opv ((Instr.box 23 a0).run Tryd.prog w) R fun t5 w =>
  opv ((Instr.box 36 a4).run Tryd.prog w) R fun t9 w =>
  callF Tryd.prog 8 #[] w R fun t20 w =>
  opv ((Op.unary .not t20).run Tryd.prog w) R fun t21 w =>
  cond t21 (R (.returned (.bool false)) w)
  (opv ((Instr.loadAt 23 t5).run Tryd.prog w) R fun t23 w =>
  callF Tryd.prog 21 #[t23, a1] w R fun t25 w =>
  opv ((Instr.extract t25 0).run Tryd.prog w) R fun t26 w =>
  opv ((Instr.extract t25 1).run Tryd.prog w) R fun t27 w =>
  opv ((Instr.extract t25 2).run Tryd.prog w) R fun t28 w =>
  opv ((Instr.alloc 32 true (.tuple #[])).run Tryd.prog w) R fun t12 w =>
  opu ((Instr.storeAt 32 t12 t27).run Tryd.prog w) R fun _ w =>
  opv ((Op.unary .not t28).run Tryd.prog w) R fun t30 w =>
  cond t30 (R (.returned (.bool true)) w)
  (drawn w fun T w =>
  qop T w (fun w K => opv ((binOp .and 3 a2 (.int .i64 4095)).run Tryd.prog w) noR K) fun t32 =>
  qop T w (fun w K => callF Tryd.prog 20 #[t26] w noR K) fun t34 =>
  qop T w (fun w K => opv ((binOp .rem 3 t32 t34).run Tryd.prog w) noR K) fun t35 =>
  qop T w (fun w K => opv ((binOp .and 3 a3 (.int .i64 4095)).run Tryd.prog w) noR K) fun t37 =>
  qop T w (fun w K => callF Tryd.prog 20 #[t26] w noR K) fun t39 =>
  qop T w (fun w K => opv ((binOp .rem 3 t37 t39).run Tryd.prog w) noR K) fun t40 =>
  ext w fun w =>
  callF Tryd.prog 27 #[t26] w R fun t42 w =>
  opv ((Instr.loadAt 36 t9).run Tryd.prog w) R fun t46 w =>
  callF Tryd.prog 15 #[t42, t35, t40, t46] w R fun t47 w =>
  join (upd (upd (upd (upd (upd (upd (upd (upd (upd (upd (upd (ini [a0, a1, a2, a3, a4]) 5 t5) 9 t9) 10 (.bool false)) 21 t21) 11 t26) 13 t28) 30 t30) 2 t35) 3 t40) 14 t42) 15 t47) (fun j1 =>
  callF Tryd.prog 20 #[t26] w R fun t49 w =>
  loop (upd (upd (upd (upd (upd (upd (upd (upd (upd (upd (upd (upd (upd (ini [a0, a1, a2, a3, a4]) 5 t5) 9 t9) 10 (.bool false)) 21 t21) 11 t26) 13 t28) 30 t30) 2 t35) 3 t40) 14 t42) 15 t47) 49 t49) 50 (.int .i64 0)) w fun e2 g2 w j2 =>
  opv ((binOp .lss 3 (g2 50) t49).run Tryd.prog w) R fun t51 w =>
  cond t51 (opv ((binOp .sub 3 (g2 50) t35).run Tryd.prog w) R fun t55 w =>
  callF Tryd.prog 20 #[t26] w R fun t57 w =>
  opv ((binOp .add 3 t55 t57).run Tryd.prog w) R fun t58 w =>
  callF Tryd.prog 20 #[t26] w R fun t60 w =>
  opv ((binOp .rem 3 t58 t60).run Tryd.prog w) R fun t61 w =>
  opv ((binOp .lss 3 t61 t47).run Tryd.prog w) R fun t63 w =>
  drawn w fun T w =>
  qop T w (fun w K => gd t63 true (fun K => K t42 w) w K) fun t66 =>
  qop T w (fun w K => gd t63 true (fun K => K (g2 50) w) w K) fun t67 =>
  qop T w (fun w K => gd t63 true (fun K => callF Tryd.prog 19 #[t66, t67] w noR K) w K) fun t68 =>
  qop T w (fun w K => gd t63 true (fun K => opv ((Instr.loadAt 36 t9).run Tryd.prog w) noR K) w K) fun t69 =>
  qop T w (fun w K => gd t63 true (fun K => opv ((binE false .neq 36 t68 t69).run Tryd.prog w) noR K) w K) fun t70 =>
  qop T w (fun w K => pick t63 t70 (.bool false) w K) fun t71 =>
  qop T w (fun w K => gd t71 false (fun K => K t63 w) w K) fun t73 =>
  qop T w (fun w K => gd t71 false (fun K => opv ((Op.unary .not t73).run Tryd.prog w) noR K) w K) fun t74 =>
  qop T w (fun w K => gd t71 false (fun K => K t74 w) w K) fun t75 =>
  qop T w (fun w K => gd t75 true (fun K => K t42 w) w K) fun t76 =>
  qop T w (fun w K => gd t75 true (fun K => K (g2 50) w) w K) fun t77 =>
  qop T w (fun w K => gd t75 true (fun K => callF Tryd.prog 19 #[t76, t77] w noR K) w K) fun t78 =>
  qop T w (fun w K => gd t75 true (fun K => K t26 w) w K) fun t79 =>
  qop T w (fun w K => gd t75 true (fun K => K (g2 50) w) w K) fun t80 =>
  qop T w (fun w K => gd t75 true (fun K => callF Tryd.prog 19 #[t79, t80] w noR K) w K) fun t81 =>
  qop T w (fun w K => gd t75 true (fun K => opv ((binE false .neq 36 t78 t81).run Tryd.prog w) noR K) w K) fun t82 =>
  qop T w (fun w K => gd t71 false (fun K => pick t75 t82 (.bool false) w K) w K) fun t83 =>
  qop T w (fun w K => pick t71 (.bool true) t83 w K) fun t84 =>
  ext w fun w =>
  cond t84 (R (.returned (.bool false)) w)
  (opv ((binOp .add 3 (g2 50) (.int .i64 1)).run Tryd.prog w) R fun t85 w =>
  j2 (upd (upd (upd (upd (upd (mix [51,16,17,84,10,50] g2 e2) 51 t51) 16 (g2 50)) 17 t63) 84 t84) 50 t85) w))
  (j1 (upd (mix [51,16,17,84,10,50] g2 e2) 51 t51) w)) fun e1 g1 w =>
  join (upd (mix [49,51,16,17,84,10,50] g1 e1) 18 t47) (fun j3 =>
  opv ((binE false .neq 3 t35 t40).run Tryd.prog w) R fun t89 w =>
  cond t89 (opv ((Instr.loadAt 36 t9).run Tryd.prog w) R fun t94 w =>
  callF Tryd.prog 15 #[t42, t40, t35, t94] w R fun t95 w =>
  opv ((binOp .add 3 t47 t95).run Tryd.prog w) R fun t96 w =>
  j3 (upd (upd (upd (mix [49,51,16,17,84,10,50] g1 e1) 18 t47) 89 t89) 18 t96) w)
  (j3 (upd (upd (mix [49,51,16,17,84,10,50] g1 e1) 18 t47) 89 t89) w)) fun e3 g3 w =>
  join (mix [89,18] g3 e3) (fun j4 =>
  callF Tryd.prog 20 #[t26] w R fun t98 w =>
  loop (upd (upd (mix [89,18] g3 e3) 98 t98) 99 (.int .i64 0)) w fun e5 g5 w j5 =>
  opv ((binOp .lss 3 (g5 99) t98).run Tryd.prog w) R fun t100 w =>
  cond t100 (drawn w fun T w =>
  qop T w (fun w K => callF Tryd.prog 19 #[t42, (g5 99)] w noR K) fun t104 =>
  qop T w (fun w K => opv ((Instr.loadAt 36 t9).run Tryd.prog w) noR K) fun t105 =>
  qop T w (fun w K => opv ((binE false .neq 36 t104 t105).run Tryd.prog w) noR K) fun t106 =>
  ext w fun w =>
  cond t106 (R (.returned (.bool false)) w)
  (opv ((binOp .add 3 (g5 99) (.int .i64 1)).run Tryd.prog w) R fun t107 w =>
  j5 (upd (upd (upd (upd (mix [100,19,106,10,99] g5 e5) 100 t100) 19 (g5 99)) 106 t106) 99 t107) w))
  (j4 (upd (mix [100,19,106,10,99] g5 e5) 100 t100) w)) fun e4 g4 w =>
  callF Tryd.prog 20 #[t26] w R fun t110 w =>
  opv ((binE false .eql 3 (g3 18) t110).run Tryd.prog w) R fun t111 w =>
  gd t111 true (fun K => K t42 w) w fun t113 w =>
  gd t111 true (fun K => callF Tryd.prog 29 #[t113] w R K) w fun t114 w =>
  gd t111 true (fun K => K t26 w) w fun t115 w =>
  gd t111 true (fun K => callF Tryd.prog 29 #[t115] w R K) w fun t116 w =>
  gd t111 true (fun K => opv ((binE false .eql 3 t114 t116).run Tryd.prog w) R K) w fun t117 w =>
  pick t111 t117 (.bool false) w fun t118 w =>
  gd t118 true (fun K => K t42 w) w fun t120 w =>
  gd t118 true (fun K => opv ((Instr.loadAt 36 t9).run Tryd.prog w) R K) w fun t121 w =>
  gd t118 true (fun K => callF Tryd.prog 15 #[t120, (.int .i64 (-1)), (.int .i64 0), t121] w R K) w fun t122 w =>
  gd t118 true (fun K => opv ((binE true .eql 3 t122 (.int .i64 0)).run Tryd.prog w) R K) w fun t123 w =>
  pick t118 t123 (.bool false) w fun t124 w =>
  R (.returned t124) w))
theorem F7.eq (R : Ending → World → Prop) (w : World) (a0 a1 a2 a3 a4 : Value) : F7 R w a0 a1 a2 a3 a4 = shF Tryd.prog 7 [0,1,2,3,4,5,9,10,11,13,14,15,16,17,18,19,21,30,49,50,51,84,89,98,99,100,106] [a0, a1, a2, a3, a4] R w := by kernel_rfl
theorem F7.calls {R : Ending → World → Prop} {w : World} {a0 a1 a2 a3 a4 : Value} (h : F7 R w a0 a1 a2 a3 a4) : Calls Tryd.prog 7 #[a0, a1, a2, a3, a4] w R := shF_sound (F7.eq R w a0 a1 a2 a3 a4 ▸ h)

/-- greenscreen/greenscreenlaw14.alive -/
def F8 (R : Ending → World → Prop) (w : World) : Prop :=
  opv ((Instr.build 23 #[(0, (.int .i64 2)), (1, (.int .i64 3))]).run Tryd.prog w) R fun t14 w =>
  callF Tryd.prog 9 #[t14] w R fun t15 w =>
  opv ((Instr.extract t15 0).run Tryd.prog w) R fun t16 w =>
  opv ((Instr.extract t15 1).run Tryd.prog w) R fun t17 w =>
  opv ((Instr.build 23 #[]).run Tryd.prog w) R fun t19 w =>
  callF Tryd.prog 9 #[t19] w R fun t20 w =>
  opv ((Instr.extract t20 0).run Tryd.prog w) R fun t21 w =>
  opv ((Instr.extract t20 1).run Tryd.prog w) R fun t22 w =>
  opv ((binE true .eql 26 t16 (.pointer none)).run Tryd.prog w) R fun t24 w =>
  cond t24 (R (.returned (.bool false)) w)
  (opv ((Instr.build 36 #[(0, (.int .u8 193))]).run Tryd.prog w) R fun t26 w =>
  callF Tryd.prog 15 #[t16, (.int .i64 5), (.int .i64 1), t26] w R fun t27 w =>
  callF Tryd.prog 22 #[t16, (.int .i64 37)] w R fun t29 w =>
  callF Tryd.prog 27 #[t16] w R fun t31 w =>
  opv ((binE true .eql 26 t31 (.pointer none)).run Tryd.prog w) R fun t33 w =>
  gd t33 false (fun K => K t29 w) w fun t35 w =>
  gd t33 false (fun K => opv ((Builtin.len_ #[51] 3 #[t35]).run Tryd.prog w) R K) w fun t36 w =>
  gd t33 false (fun K => opv ((binE true .neq 3 t36 (.int .i64 2)).run Tryd.prog w) R K) w fun t37 w =>
  pick t33 (.bool true) t37 w fun t38 w =>
  cond t38 (R (.returned (.bool false)) w)
  (opv ((Instr.build 36 #[(0, (.int .u8 194)), (1, (.bool true))]).run Tryd.prog w) R fun t40 w =>
  callF Tryd.prog 11 #[t16, (.int .i64 1), t40] w R fun t41 w =>
  callF Tryd.prog 14 #[t16, (.int .i64 4)] w R fun t43 w =>
  callF Tryd.prog 14 #[t16, (.int .i64 6)] w R fun t45 w =>
  callF Tryd.prog 25 #[t16, (.int .i64 37), (.string ⟨#[65, 65]⟩)] w R fun t47 w =>
  callF Tryd.prog 28 #[t16, t31] w R fun t50 w =>
  callF Tryd.prog 17 #[t16] w R fun t52 w =>
  opv ((binE true .eql 27 t17 (.int .i64 0)).run Tryd.prog w) R fun t54 w =>
  gd t54 true (fun K => K t22 w) w fun t56 w =>
  gd t54 true (fun K => opv ((binE true .eql 27 t56 (.int .i64 1)).run Tryd.prog w) R K) w fun t57 w =>
  pick t54 t57 (.bool false) w fun t58 w =>
  gd t58 true (fun K => K t27 w) w fun t60 w =>
  gd t58 true (fun K => opv ((binE true .eql 3 t60 (.int .i64 2)).run Tryd.prog w) R K) w fun t61 w =>
  pick t58 t61 (.bool false) w fun t62 w =>
  gd t62 true (fun K => K t29 w) w fun t64 w =>
  gd t62 true (fun K => opv ((Instr.indexAt 51 t64 (.int .i64 0)).run Tryd.prog w) R K) w fun t65 w =>
  gd t62 true (fun K => opv ((Instr.loadAt 9 t65).run Tryd.prog w) R K) w fun t66 w =>
  gd t62 true (fun K => opv ((binE true .eql 9 t66 (.string ⟨#[65, 32, 32]⟩)).run Tryd.prog w) R K) w fun t67 w =>
  pick t62 t67 (.bool false) w fun t68 w =>
  gd t68 true (fun K => K t29 w) w fun t70 w =>
  gd t68 true (fun K => opv ((Instr.indexAt 51 t70 (.int .i64 1)).run Tryd.prog w) R K) w fun t71 w =>
  gd t68 true (fun K => opv ((Instr.loadAt 9 t71).run Tryd.prog w) R K) w fun t72 w =>
  gd t68 true (fun K => opv ((binE true .eql 9 t72 (.string ⟨#[32, 32, 65]⟩)).run Tryd.prog w) R K) w fun t73 w =>
  pick t68 t73 (.bool false) w fun t74 w =>
  gd t74 true (fun K => K t41 w) w fun t76 w =>
  pick t74 t76 (.bool false) w fun t77 w =>
  gd t77 true (fun K => K t43 w) w fun t79 w =>
  pick t77 t79 (.bool false) w fun t80 w =>
  gd t80 true (fun K => K t45 w) w fun t82 w =>
  gd t80 true (fun K => opv ((Op.unary .not t82).run Tryd.prog w) R K) w fun t83 w =>
  pick t80 t83 (.bool false) w fun t84 w =>
  gd t84 true (fun K => K t47 w) w fun t86 w =>
  gd t84 true (fun K => opv ((binE true .eql 3 t86 (.int .i64 5)).run Tryd.prog w) R K) w fun t87 w =>
  pick t84 t87 (.bool false) w fun t88 w =>
  gd t88 true (fun K => K t50 w) w fun t90 w =>
  gd t88 true (fun K => opv ((Op.unary .not t90).run Tryd.prog w) R K) w fun t91 w =>
  pick t88 t91 (.bool false) w fun t92 w =>
  gd t92 true (fun K => K t31 w) w fun t94 w =>
  gd t92 true (fun K => callF Tryd.prog 29 #[t94] w R K) w fun t95 w =>
  gd t92 true (fun K => opv ((binE true .eql 3 t95 (.int .i64 0)).run Tryd.prog w) R K) w fun t96 w =>
  pick t92 t96 (.bool false) w fun t97 w =>
  gd t97 true (fun K => K t16 w) w fun t99 w =>
  gd t97 true (fun K => callF Tryd.prog 19 #[t99, (.int .i64 5)] w R K) w fun t100 w =>
  gd t97 true (fun K => opv ((Instr.build 36 #[]).run Tryd.prog w) R K) w fun t101 w =>
  gd t97 true (fun K => opv ((binE false .eql 36 t100 t101).run Tryd.prog w) R K) w fun t102 w =>
  pick t97 t102 (.bool false) w fun t103 w =>
  gd t103 true (fun K => K t31 w) w fun t105 w =>
  gd t103 true (fun K => callF Tryd.prog 19 #[t105, (.int .i64 5)] w R K) w fun t106 w =>
  gd t103 true (fun K => opv ((Instr.field 36 t106 0).run Tryd.prog w) R K) w fun t107 w =>
  gd t103 true (fun K => opv ((binE true .eql 5 t107 (.int .u8 193)).run Tryd.prog w) R K) w fun t108 w =>
  pick t103 t108 (.bool false) w fun t109 w =>
  gd t109 true (fun K => K t16 w) w fun t111 w =>
  gd t109 true (fun K => callF Tryd.prog 29 #[t111] w R K) w fun t112 w =>
  gd t109 true (fun K => opv ((binE true .eql 3 t112 (.int .i64 0)).run Tryd.prog w) R K) w fun t113 w =>
  pick t109 t113 (.bool false) w fun t114 w =>
  gd t114 true (fun K => K t16 w) w fun t116 w =>
  gd t114 true (fun K => callF Tryd.prog 20 #[t116] w R K) w fun t117 w =>
  gd t114 true (fun K => opv ((binE true .eql 3 t117 (.int .i64 6)).run Tryd.prog w) R K) w fun t118 w =>
  pick t114 t118 (.bool false) w fun t119 w =>
  gd t119 true (fun K => K t16 w) w fun t121 w =>
  gd t119 true (fun K => callF Tryd.prog 30 #[t121] w R K) w fun t122 w =>
  gd t119 true (fun K => opv ((Instr.build 23 #[(0, (.int .i64 2)), (1, (.int .i64 3))]).run Tryd.prog w) R K) w fun t123 w =>
  gd t119 true (fun K => opv ((binE false .eql 23 t122 t123).run Tryd.prog w) R K) w fun t124 w =>
  pick t119 t124 (.bool false) w fun t125 w =>
  gd t125 true (fun K => K t31 w) w fun t127 w =>
  gd t125 true (fun K => callF Tryd.prog 24 #[t127, (.int .i64 37), (.int .i64 5), (.int .i64 2)] w R K) w fun t128 w =>
  gd t125 true (fun K => opv ((binE true .eql 9 t128 (.string ⟨#[65, 65]⟩)).run Tryd.prog w) R K) w fun t129 w =>
  pick t125 t129 (.bool false) w fun t130 w =>
  R (.returned t130) w))
theorem F8.eq (R : Ending → World → Prop) (w : World) : F8 R w  = shF Tryd.prog 8 [0,1,2,4,5,6,7,8,9,10,11,12,24,38] [] R w := by kernel_rfl
theorem F8.calls {R : Ending → World → Prop} {w : World} (h : F8 R w ) : Calls Tryd.prog 8 #[] w R := shF_sound (F8.eq R w  ▸ h)

end Go.Proofs.YtojcbhkhfcddnaaDoor
