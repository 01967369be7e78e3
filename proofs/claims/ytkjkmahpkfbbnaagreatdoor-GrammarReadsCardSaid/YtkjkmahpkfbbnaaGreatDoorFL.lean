/-
  Shallow forms of functions of the loaded program, each tied to it. No condition.
-/
import Derived.Test.YtkjkmahpkfbbnaaGreatDoorProg
import Derived.Test.YtkjkmahpkfbbnaaGreatDoorShSound
import Derived.KernelRfl
namespace Go.Proofs.YtkjkmahpkfbbnaaGreatDoor
open Go Go.Sh
set_option linter.unusedVariables false
set_option maxRecDepth 100000
/-- greenscreen/greenscreenlaw25.GrammarReads -/
def F3 (R : Ending → World → Prop) (w : World) (a0 a1 a2 a3 : Value) : Prop :=
  opv ((Instr.box 23 a0).run Tryz.prog w) R fun t4 w =>
  callF Tryz.prog 4 #[] w R fun t23 w =>
  opv ((Op.unary .not t23).run Tryz.prog w) R fun t24 w =>
  cond t24 (R (.returned (.bool false)) w)
  (opv ((Instr.loadAt 23 t4).run Tryz.prog w) R fun t26 w =>
  callF Tryz.prog 5 #[t26] w R fun t27 w =>
  opv ((Instr.extract t27 0).run Tryz.prog w) R fun t28 w =>
  opv ((Instr.extract t27 1).run Tryz.prog w) R fun t29 w =>
  opv ((Instr.alloc 27 true (.tuple #[])).run Tryz.prog w) R fun t9 w =>
  opu ((Instr.storeAt 27 t9 t28).run Tryz.prog w) R fun _ w =>
  opv ((binE true .neq 3 t29 (.int .i64 0)).run Tryz.prog w) R fun t31 w =>
  gd t31 false (fun K => opv ((Instr.fieldAt 27 t9 1).run Tryz.prog w) R K) w fun t33 w =>
  gd t31 false (fun K => opv ((Instr.loadAt 24 t33).run Tryz.prog w) R K) w fun t34 w =>
  gd t31 false (fun K => opv ((Builtin.len_ #[24] 3 #[t34]).run Tryz.prog w) R K) w fun t35 w =>
  gd t31 false (fun K => opv ((binOp .gtr 3 t35 (.int .i64 120)).run Tryz.prog w) R K) w fun t36 w =>
  pick t31 (.bool true) t36 w fun t37 w =>
  cond t37 (R (.returned (.bool true)) w)
  (opv ((Instr.loadAt 23 t4).run Tryz.prog w) R fun t39 w =>
  callF Tryz.prog 6 #[t39] w R fun t40 w =>
  opv ((Instr.extract t40 0).run Tryz.prog w) R fun t41 w =>
  opv ((Instr.extract t40 1).run Tryz.prog w) R fun t42 w =>
  join (upd (upd (upd (upd (upd (upd (upd (ini [a0, a1, a2, a3]) 4 t4) 8 (.bool false)) 24 t24) 9 t9) 10 t29) 37 t37) 11 t41) (fun j1 =>
  opv ((Builtin.len_ #[24] 3 #[a1]).run Tryz.prog w) R fun t44 w =>
  loop (upd (upd (upd (upd (upd (upd (upd (upd (upd (upd (ini [a0, a1, a2, a3]) 4 t4) 8 (.bool false)) 24 t24) 9 t9) 10 t29) 37 t37) 11 t41) 43 a1) 44 t44) 45 (.int .i64 0)) w fun e2 g2 w j2 =>
  opv ((binOp .lss 3 (g2 45) t44).run Tryz.prog w) R fun t46 w =>
  cond t46 (join (upd (mix [46,14,13,54,45] g2 e2) 46 t46) (fun j3 =>
  opv ((Instr.indexAt 24 a1 (g2 45)).run Tryz.prog w) R fun t48 w =>
  opv ((Instr.loadAt 35 t48).run Tryz.prog w) R fun t49 w =>
  opv ((Instr.alloc 35 true (.tuple #[])).run Tryz.prog w) R fun t14 w =>
  opu ((Instr.storeAt 35 t14 t49).run Tryz.prog w) R fun _ w =>
  opv ((Instr.fieldAt 27 t9 1).run Tryz.prog w) R fun t51 w =>
  opv ((Instr.loadAt 24 t51).run Tryz.prog w) R fun t52 w =>
  opv ((Builtin.len_ #[24] 3 #[t52]).run Tryz.prog w) R fun t53 w =>
  opv ((binOp .lss 3 (g2 45) t53).run Tryz.prog w) R fun t54 w =>
  cond t54 (opv ((Instr.loadAt 35 t14).run Tryz.prog w) R fun t57 w =>
  callF Tryz.prog 7 #[t41, (g2 45), t57] w R fun t58 w =>
  opv ((Instr.fieldAt 27 t9 1).run Tryz.prog w) R fun t59 w =>
  opv ((Instr.loadAt 24 t59).run Tryz.prog w) R fun t60 w =>
  opv ((Instr.loadAt 35 t14).run Tryz.prog w) R fun t62 w =>
  opv ((Instr.indexAt 24 t60 (g2 45)).run Tryz.prog w) R fun t63 w =>
  opu ((Instr.storeAt 35 t63 t62).run Tryz.prog w) R fun _ w =>
  j3 (upd (upd (upd (upd (mix [46,14,13,54,45] g2 e2) 46 t46) 14 t14) 13 (g2 45)) 54 t54) w)
  (j3 (upd (upd (upd (upd (mix [46,14,13,54,45] g2 e2) 46 t46) 14 t14) 13 (g2 45)) 54 t54) w)) fun e3 g3 w =>
  opv ((binOp .add 3 (g2 45) (.int .i64 1)).run Tryz.prog w) R fun t64 w =>
  j2 (upd (mix [14,13,54] g3 e3) 45 t64) w)
  (j1 (upd (mix [46,14,13,54,45] g2 e2) 46 t46) w)) fun e1 g1 w =>
  opv ((binOp .and 3 a2 (.int .i64 255)).run Tryz.prog w) R fun t66 w =>
  opv ((Instr.fieldAt 27 t9 1).run Tryz.prog w) R fun t67 w =>
  opv ((Instr.loadAt 24 t67).run Tryz.prog w) R fun t68 w =>
  opv ((Builtin.len_ #[24] 3 #[t68]).run Tryz.prog w) R fun t69 w =>
  opv ((binOp .rem 3 t66 t69).run Tryz.prog w) R fun t70 w =>
  opv ((Instr.fieldAt 27 t9 2).run Tryz.prog w) R fun t71 w =>
  opu ((Instr.storeAt 3 t71 t70).run Tryz.prog w) R fun _ w =>
  opv ((Instr.fieldAt 27 t9 2).run Tryz.prog w) R fun t73 w =>
  opv ((Instr.loadAt 3 t73).run Tryz.prog w) R fun t74 w =>
  callF Tryz.prog 8 #[t41, t74] w R fun t75 w =>
  callF Tryz.prog 10 #[t41, a3] w R fun t79 w =>
  callF Tryz.prog 9 #[t79] w R fun t80 w =>
  opv ((Instr.extract t80 0).run Tryz.prog w) R fun t81 w =>
  opv ((Instr.extract t80 1).run Tryz.prog w) R fun t82 w =>
  opv ((Instr.alloc 40 true (.tuple #[])).run Tryz.prog w) R fun t15 w =>
  opu ((Instr.storeAt 40 t15 t81).run Tryz.prog w) R fun _ w =>
  drawn w fun T w =>
  qop T w (fun w K => opv ((binE true .neq 31 t82 (.int .i64 0)).run Tryz.prog w) noR K) fun t84 =>
  qop T w (fun w K => gd t84 false (fun K => opv ((Instr.fieldAt 40 t15 0).run Tryz.prog w) noR K) w K) fun t86 =>
  qop T w (fun w K => gd t84 false (fun K => opv ((Instr.loadAt 5 t86).run Tryz.prog w) noR K) w K) fun t87 =>
  qop T w (fun w K => gd t84 false (fun K => K a3 w) w K) fun t88 =>
  qop T w (fun w K => gd t84 false (fun K => opv ((binE false .neq 5 t87 t88).run Tryz.prog w) noR K) w K) fun t89 =>
  qop T w (fun w K => pick t84 (.bool true) t89 w K) fun t90 =>
  qop T w (fun w K => gd t90 false (fun K => opv ((Instr.fieldAt 40 t15 1).run Tryz.prog w) noR K) w K) fun t92 =>
  qop T w (fun w K => gd t90 false (fun K => opv ((Instr.loadAt 4 t92).run Tryz.prog w) noR K) w K) fun t93 =>
  qop T w (fun w K => gd t90 false (fun K => K a3 w) w K) fun t94 =>
  qop T w (fun w K => gd t90 false (fun K => callF Tryz.prog 11 #[t94] w noR K) w K) fun t95 =>
  qop T w (fun w K => gd t90 false (fun K => opv ((binE false .neq 4 t93 t95).run Tryz.prog w) noR K) w K) fun t96 =>
  qop T w (fun w K => pick t90 (.bool true) t96 w K) fun t97 =>
  ext w fun w =>
  cond t97 (R (.returned (.bool false)) w)
  (opv ((Instr.fieldAt 40 t15 1).run Tryz.prog w) R fun t98 w =>
  opv ((Instr.loadAt 4 t98).run Tryz.prog w) R fun t99 w =>
  opv ((Op.unary .not t99).run Tryz.prog w) R fun t100 w =>
  gd t100 true (fun K => opv ((Instr.fieldAt 40 t15 2).run Tryz.prog w) R K) w fun t102 w =>
  gd t100 true (fun K => opv ((Instr.loadAt 3 t102).run Tryz.prog w) R K) w fun t103 w =>
  gd t100 true (fun K => opv ((Instr.fieldAt 27 t9 2).run Tryz.prog w) R K) w fun t104 w =>
  gd t100 true (fun K => opv ((Instr.loadAt 3 t104).run Tryz.prog w) R K) w fun t105 w =>
  gd t100 true (fun K => opv ((binE false .neq 3 t103 t105).run Tryz.prog w) R K) w fun t106 w =>
  gd t100 true (fun K => K t106 w) w fun t107 w =>
  gd t107 false (fun K => opv ((Instr.loadAt 40 t15).run Tryz.prog w) R K) w fun t108 w =>
  gd t107 false (fun K => opv ((Instr.loadAt 27 t9).run Tryz.prog w) R K) w fun t109 w =>
  gd t107 false (fun K => callF Tryz.prog 12 #[t108, t109] w R K) w fun t110 w =>
  gd t107 false (fun K => opv ((Op.unary .not t110).run Tryz.prog w) R K) w fun t111 w =>
  gd t100 true (fun K => pick t107 (.bool true) t111 w K) w fun t112 w =>
  pick t100 t112 (.bool false) w fun t113 w =>
  cond t113 (R (.returned (.bool false)) w)
  (callF Tryz.prog 14 #[t41, a3] w R fun t117 w =>
  callF Tryz.prog 13 #[t117] w R fun t118 w =>
  opv ((Instr.extract t118 0).run Tryz.prog w) R fun t119 w =>
  opv ((Instr.extract t118 1).run Tryz.prog w) R fun t120 w =>
  opv ((Instr.extract t118 2).run Tryz.prog w) R fun t121 w =>
  opv ((Instr.extract t118 3).run Tryz.prog w) R fun t122 w =>
  opv ((binE false .neq 5 t119 a3).run Tryz.prog w) R fun t125 w =>
  gd t125 false (fun K => K t120 w) w fun t127 w =>
  gd t125 false (fun K => opv ((Instr.fieldAt 27 t9 2).run Tryz.prog w) R K) w fun t128 w =>
  gd t125 false (fun K => opv ((Instr.loadAt 3 t128).run Tryz.prog w) R K) w fun t129 w =>
  gd t125 false (fun K => opv ((binE false .neq 3 t127 t129).run Tryz.prog w) R K) w fun t130 w =>
  pick t125 (.bool true) t130 w fun t131 w =>
  gd t131 false (fun K => K t122 w) w fun t133 w =>
  gd t131 false (fun K => opv ((binE true .neq 31 t133 (.int .i64 0)).run Tryz.prog w) R K) w fun t134 w =>
  pick t131 (.bool true) t134 w fun t135 w =>
  gd t135 false (fun K => K t121 w) w fun t137 w =>
  gd t135 false (fun K => opv ((Builtin.len_ #[24] 3 #[t137]).run Tryz.prog w) R K) w fun t138 w =>
  gd t135 false (fun K => opv ((Instr.fieldAt 27 t9 1).run Tryz.prog w) R K) w fun t139 w =>
  gd t135 false (fun K => opv ((Instr.loadAt 24 t139).run Tryz.prog w) R K) w fun t140 w =>
  gd t135 false (fun K => opv ((Builtin.len_ #[24] 3 #[t140]).run Tryz.prog w) R K) w fun t141 w =>
  gd t135 false (fun K => opv ((binE false .neq 3 t138 t141).run Tryz.prog w) R K) w fun t142 w =>
  pick t135 (.bool true) t142 w fun t143 w =>
  cond t143 (R (.returned (.bool false)) w)
  (join (upd (upd (upd (upd (upd (upd (upd (upd (upd (mix [43,44,46,14,13,54,45] g1 e1) 15 t15) 16 t82) 97 t97) 113 t113) 17 t119) 18 t120) 19 t121) 20 t122) 143 t143) (fun j4 =>
  opv ((Builtin.len_ #[24] 3 #[t121]).run Tryz.prog w) R fun t145 w =>
  loop (upd (upd (upd (upd (upd (upd (upd (upd (upd (upd (upd (upd (mix [43,44,46,14,13,54,45] g1 e1) 15 t15) 16 t82) 97 t97) 113 t113) 17 t119) 18 t120) 19 t121) 20 t122) 143 t143) 144 t121) 145 t145) 146 (.int .i64 0)) w fun e5 g5 w j5 =>
  opv ((binOp .lss 3 (g5 146) t145).run Tryz.prog w) R fun t147 w =>
  cond t147 (opv ((Instr.indexAt 24 t121 (g5 146)).run Tryz.prog w) R fun t149 w =>
  opv ((Instr.loadAt 35 t149).run Tryz.prog w) R fun t150 w =>
  opv ((Instr.alloc 35 true (.tuple #[])).run Tryz.prog w) R fun t22 w =>
  opu ((Instr.storeAt 35 t22 t150).run Tryz.prog w) R fun _ w =>
  drawn w fun T w =>
  qop T w (fun w K => opv ((Instr.loadAt 35 t22).run Tryz.prog w) noR K) fun t151 =>
  qop T w (fun w K => opv ((Instr.fieldAt 27 t9 1).run Tryz.prog w) noR K) fun t152 =>
  qop T w (fun w K => opv ((Instr.loadAt 24 t152).run Tryz.prog w) noR K) fun t153 =>
  qop T w (fun w K => opv ((Instr.indexAt 24 t153 (g5 146)).run Tryz.prog w) noR K) fun t155 =>
  qop T w (fun w K => opv ((Instr.loadAt 35 t155).run Tryz.prog w) noR K) fun t156 =>
  qop T w (fun w K => callF Tryz.prog 15 #[t156] w noR K) fun t157 =>
  qop T w (fun w K => opv ((binE false .neq 35 t151 t157).run Tryz.prog w) noR K) fun t158 =>
  ext w fun w =>
  cond t158 (R (.returned (.bool false)) w)
  (opv ((binOp .add 3 (g5 146) (.int .i64 1)).run Tryz.prog w) R fun t159 w =>
  j5 (upd (upd (upd (upd (upd (mix [147,22,21,158,8,146] g5 e5) 147 t147) 22 t22) 21 (g5 146)) 158 t158) 146 t159) w))
  (j4 (upd (mix [147,22,21,158,8,146] g5 e5) 147 t147) w)) fun e4 g4 w =>
  R (.returned (.bool true)) w)))))
theorem F3.eq (R : Ending → World → Prop) (w : World) (a0 a1 a2 a3 : Value) : F3 R w a0 a1 a2 a3 = shF Tryz.prog 3 [0,1,2,3,4,8,9,10,11,13,14,15,16,17,18,19,20,21,22,24,37,43,44,45,46,54,97,113,143,144,145,146,147,158] [a0, a1, a2, a3] R w := by kernel_rfl
theorem F3.calls {R : Ending → World → Prop} {w : World} {a0 a1 a2 a3 : Value} (h : F3 R w a0 a1 a2 a3) : Calls Tryz.prog 3 #[a0, a1, a2, a3] w R := shF_sound (F3.eq R w a0 a1 a2 a3 ▸ h)

/-- greenscreen/greenscreenlaw25.alive -/
def F4 (R : Ending → World → Prop) (w : World) : Prop :=
  opv ((Instr.buildSlice 43 7 #[(0, (.int .u8 125)), (1, (.int .u8 64)), (2, (.int .u8 194)), (3, (.int .u8 17)), (4, (.int .u8 64)), (5, (.int .u8 193)), (6, (.int .u8 193))]).run Tryz.prog w) R fun t14 w =>
  callF Tryz.prog 9 #[t14] w R fun t15 w =>
  opv ((Instr.extract t15 0).run Tryz.prog w) R fun t16 w =>
  opv ((Instr.extract t15 1).run Tryz.prog w) R fun t17 w =>
  opv ((Instr.alloc 40 true (.tuple #[])).run Tryz.prog w) R fun t1 w =>
  opu ((Instr.storeAt 40 t1 t16).run Tryz.prog w) R fun _ w =>
  opv ((Instr.buildSlice 43 1 #[(0, (.int .u8 108))]).run Tryz.prog w) R fun t19 w =>
  callF Tryz.prog 9 #[t19] w R fun t20 w =>
  opv ((Instr.extract t20 0).run Tryz.prog w) R fun t21 w =>
  opv ((Instr.extract t20 1).run Tryz.prog w) R fun t22 w =>
  opv ((Instr.alloc 40 true (.tuple #[])).run Tryz.prog w) R fun t3 w =>
  opu ((Instr.storeAt 40 t3 t21).run Tryz.prog w) R fun _ w =>
  opv ((Instr.buildSlice 43 2 #[(0, (.int .u8 125)), (1, (.int .u8 64))]).run Tryz.prog w) R fun t24 w =>
  callF Tryz.prog 9 #[t24] w R fun t25 w =>
  opv ((Instr.extract t25 0).run Tryz.prog w) R fun t26 w =>
  opv ((Instr.extract t25 1).run Tryz.prog w) R fun t27 w =>
  opv ((Instr.alloc 40 true (.tuple #[])).run Tryz.prog w) R fun t5 w =>
  opu ((Instr.storeAt 40 t5 t26).run Tryz.prog w) R fun _ w =>
  opv ((Instr.buildSlice 43 6 #[(0, (.int .u8 96)), (1, (.int .u8 64)), (2, (.int .u8 64)), (3, (.int .u8 29)), (4, (.int .u8 240)), (5, (.int .u8 193))]).run Tryz.prog w) R fun t29 w =>
  callF Tryz.prog 13 #[t29] w R fun t30 w =>
  opv ((Instr.extract t30 0).run Tryz.prog w) R fun t31 w =>
  opv ((Instr.extract t30 1).run Tryz.prog w) R fun t32 w =>
  opv ((Instr.extract t30 2).run Tryz.prog w) R fun t33 w =>
  opv ((Instr.extract t30 3).run Tryz.prog w) R fun t34 w =>
  opv ((Instr.loadAt 40 t1).run Tryz.prog w) R fun t36 w =>
  callF Tryz.prog 16 #[t36, (.int .i64 6)] w R fun t37 w =>
  opv ((Instr.extract t37 0).run Tryz.prog w) R fun t38 w =>
  opv ((Instr.extract t37 1).run Tryz.prog w) R fun t39 w =>
  opv ((binE true .eql 31 t17 (.int .i64 0)).run Tryz.prog w) R fun t41 w =>
  gd t41 true (fun K => opv ((Instr.loadAt 40 t1).run Tryz.prog w) R K) w fun t43 w =>
  gd t41 true (fun K => callF Tryz.prog 17 #[(.int .i64 37), t43] w R K) w fun t44 w =>
  gd t41 true (fun K => opv ((binE true .eql 9 t44 (.string ⟨#[69, 78, 84, 69, 82, 32, 64, 50, 32, 49, 61, 65]⟩)).run Tryz.prog w) R K) w fun t45 w =>
  pick t41 t45 (.bool false) w fun t46 w =>
  gd t46 true (fun K => K t22 w) w fun t48 w =>
  gd t46 true (fun K => opv ((binE true .eql 31 t48 (.int .i64 0)).run Tryz.prog w) R K) w fun t49 w =>
  pick t46 t49 (.bool false) w fun t50 w =>
  gd t50 true (fun K => opv ((Instr.fieldAt 40 t3 1).run Tryz.prog w) R K) w fun t52 w =>
  gd t50 true (fun K => opv ((Instr.loadAt 4 t52).run Tryz.prog w) R K) w fun t53 w =>
  pick t50 t53 (.bool false) w fun t54 w =>
  gd t54 true (fun K => opv ((Instr.loadAt 40 t3).run Tryz.prog w) R K) w fun t56 w =>
  gd t54 true (fun K => callF Tryz.prog 17 #[(.int .i64 37), t56] w R K) w fun t57 w =>
  gd t54 true (fun K => opv ((binE true .eql 9 t57 (.string ⟨#[80, 65, 49]⟩)).run Tryz.prog w) R K) w fun t58 w =>
  pick t54 t58 (.bool false) w fun t59 w =>
  gd t59 true (fun K => K t27 w) w fun t61 w =>
  gd t59 true (fun K => opv ((binE true .eql 31 t61 (.int .i64 20)).run Tryz.prog w) R K) w fun t62 w =>
  pick t59 t62 (.bool false) w fun t63 w =>
  gd t63 true (fun K => K t31 w) w fun t65 w =>
  gd t63 true (fun K => opv ((binE true .eql 5 t65 (.int .u8 96)).run Tryz.prog w) R K) w fun t66 w =>
  pick t63 t66 (.bool false) w fun t67 w =>
  gd t67 true (fun K => K t32 w) w fun t69 w =>
  gd t67 true (fun K => opv ((binE true .eql 3 t69 (.int .i64 0)).run Tryz.prog w) R K) w fun t70 w =>
  pick t67 t70 (.bool false) w fun t71 w =>
  gd t71 true (fun K => K t33 w) w fun t73 w =>
  gd t71 true (fun K => opv ((Builtin.len_ #[24] 3 #[t73]).run Tryz.prog w) R K) w fun t74 w =>
  gd t71 true (fun K => opv ((binE true .eql 3 t74 (.int .i64 2)).run Tryz.prog w) R K) w fun t75 w =>
  pick t71 t75 (.bool false) w fun t76 w =>
  gd t76 true (fun K => K t33 w) w fun t78 w =>
  gd t76 true (fun K => opv ((Instr.indexAt 24 t78 (.int .i64 0)).run Tryz.prog w) R K) w fun t79 w =>
  gd t76 true (fun K => opv ((Instr.loadAt 35 t79).run Tryz.prog w) R K) w fun t80 w =>
  gd t76 true (fun K => opv ((Instr.build 35 #[(0, (.int .u8 48)), (2, (.bool true))]).run Tryz.prog w) R K) w fun t81 w =>
  gd t76 true (fun K => opv ((binE false .eql 35 t80 t81).run Tryz.prog w) R K) w fun t82 w =>
  pick t76 t82 (.bool false) w fun t83 w =>
  gd t83 true (fun K => K t34 w) w fun t85 w =>
  gd t83 true (fun K => opv ((binE true .eql 31 t85 (.int .i64 0)).run Tryz.prog w) R K) w fun t86 w =>
  pick t83 t86 (.bool false) w fun t87 w =>
  gd t87 true (fun K => K t38 w) w fun t89 w =>
  gd t87 true (fun K => opv ((convert 43 9 t89).run Tryz.prog w) R K) w fun t90 w =>
  gd t87 true (fun K => opv ((binE true .eql 9 t90 (.string ⟨#[125, 64, 194, 17, 64, 193, 193]⟩)).run Tryz.prog w) R K) w fun t91 w =>
  pick t87 t91 (.bool false) w fun t92 w =>
  gd t92 true (fun K => K t39 w) w fun t94 w =>
  gd t92 true (fun K => opv ((binE true .eql 31 t94 (.int .i64 0)).run Tryz.prog w) R K) w fun t95 w =>
  pick t92 t95 (.bool false) w fun t96 w =>
  gd t96 true (fun K => opv ((Instr.loadAt 40 t1).run Tryz.prog w) R K) w fun t98 w =>
  gd t96 true (fun K => opv ((Instr.loadAt 40 t1).run Tryz.prog w) R K) w fun t99 w =>
  gd t96 true (fun K => callF Tryz.prog 18 #[t98, t99] w R K) w fun t100 w =>
  pick t96 t100 (.bool false) w fun t101 w =>
  gd t101 true (fun K => opv ((Instr.loadAt 40 t1).run Tryz.prog w) R K) w fun t103 w =>
  gd t101 true (fun K => opv ((Instr.loadAt 40 t3).run Tryz.prog w) R K) w fun t104 w =>
  gd t101 true (fun K => callF Tryz.prog 18 #[t103, t104] w R K) w fun t105 w =>
  gd t101 true (fun K => opv ((Op.unary .not t105).run Tryz.prog w) R K) w fun t106 w =>
  pick t101 t106 (.bool false) w fun t107 w =>
  R (.returned t107) w
theorem F4.eq (R : Ending → World → Prop) (w : World) : F4 R w  = shF Tryz.prog 4 [0,1,2,3,4,6,7,8,9,10,11,12] [] R w := by kernel_rfl
theorem F4.calls {R : Ending → World → Prop} {w : World} (h : F4 R w ) : Calls Tryz.prog 4 #[] w R := shF_sound (F4.eq R w  ▸ h)

/-- greenscreen/greenscreenlaw25.items -/
def F12 (R : Ending → World → Prop) (w : World) (a0 a1 : Value) : Prop :=
  opv ((Instr.box 40 a0).run Tryz.prog w) R fun t2 w =>
  opv ((Instr.box 27 a1).run Tryz.prog w) R fun t3 w =>
  opv ((Instr.buildSlice 38 0 #[]).run Tryz.prog w) R fun t13 w =>
  opv ((Instr.makeFunc (.func 26) #[] #[t3]).run Tryz.prog w) R fun t14 w =>
  opv ((Instr.loadAt 27 t3).run Tryz.prog w) R fun t15 w =>
  callF Tryz.prog 28 #[t15] w R fun t16 w =>
  join (upd (upd (upd (upd (upd (upd (ini [a0, a1]) 2 t2) 3 t3) 4 (.bool false)) 5 t13) 6 t14) 7 t16) (fun j1 =>
  opv ((Builtin.len_ #[65] 3 #[t16]).run Tryz.prog w) R fun t18 w =>
  loop (upd (upd (upd (upd (upd (upd (upd (upd (upd (ini [a0, a1]) 2 t2) 3 t3) 4 (.bool false)) 5 t13) 6 t14) 7 t16) 17 t16) 18 t18) 19 (.int .i64 0)) w fun e2 g2 w j2 =>
  opv ((binOp .lss 3 (g2 19) t18).run Tryz.prog w) R fun t20 w =>
  cond t20 (join (upd (mix [20,9,26,5,19] g2 e2) 20 t20) (fun j3 =>
  opv ((Instr.indexAt 65 t16 (g2 19)).run Tryz.prog w) R fun t21 w =>
  opv ((Instr.loadAt 68 t21).run Tryz.prog w) R fun t22 w =>
  opv ((Instr.alloc 68 true (.tuple #[])).run Tryz.prog w) R fun t9 w =>
  opu ((Instr.storeAt 68 t9 t22).run Tryz.prog w) R fun _ w =>
  opv ((Instr.fieldAt 68 t9 2).run Tryz.prog w) R fun t23 w =>
  opv ((Instr.loadAt 5 t23).run Tryz.prog w) R fun t24 w =>
  opv ((binOp .and 5 t24 (.int .u8 1)).run Tryz.prog w) R fun t25 w =>
  opv ((binE true .eql 5 t25 (.int .u8 1)).run Tryz.prog w) R fun t26 w =>
  cond t26 (drawn w fun T w =>
  qop T w (fun w K => opv ((Instr.fieldAt 68 t9 0).run Tryz.prog w) noR K) fun t28 =>
  qop T w (fun w K => opv ((Instr.loadAt 3 t28).run Tryz.prog w) noR K) fun t29 =>
  qop T w (fun w K => opv ((binOp .add 3 t29 (.int .i64 1)).run Tryz.prog w) noR K) fun t30 =>
  qop T w (fun w K => opv ((Instr.fieldAt 27 t3 1).run Tryz.prog w) noR K) fun t31 =>
  qop T w (fun w K => opv ((Instr.loadAt 24 t31).run Tryz.prog w) noR K) fun t32 =>
  qop T w (fun w K => opv ((Builtin.len_ #[24] 3 #[t32]).run Tryz.prog w) noR K) fun t33 =>
  qop T w (fun w K => opv ((binOp .rem 3 t30 t33).run Tryz.prog w) noR K) fun t34 =>
  qop T w (fun w K => opv ((Instr.loadAt 27 t3).run Tryz.prog w) noR K) fun t36 =>
  qop T w (fun w K => opv ((Instr.loadAt 68 t9).run Tryz.prog w) noR K) fun t37 =>
  ext w fun w =>
  lop T w (fun w K => callF Tryz.prog 29 #[t36, t37] w R K) fun t38 w =>
  ext w fun w =>
  lop T w (fun w K => callY Tryz.prog t14 #[t38] w R K) fun t39 w =>
  qop T w (fun w K => opv ((Instr.build 71 #[(0, t34), (1, t39)]).run Tryz.prog w) noR K) fun t40 =>
  ext w fun w =>
  lop T w (fun w K => opv ((Instr.buildSlice 38 1 #[(0, t40)]).run Tryz.prog w) R K) fun t41 w =>
  ext w fun w =>
  lop T w (fun w K => opv ((Builtin.append_ #[38, 38] 38 #[(g2 5), t41]).run Tryz.prog w) R K) fun t42 w =>
  ext w fun w =>
  j3 (upd (upd (upd (upd (mix [20,9,26,5,19] g2 e2) 20 t20) 9 t9) 26 t26) 5 t42) w)
  (j3 (upd (upd (upd (mix [20,9,26,5,19] g2 e2) 20 t20) 9 t9) 26 t26) w)) fun e3 g3 w =>
  opv ((binOp .add 3 (g2 19) (.int .i64 1)).run Tryz.prog w) R fun t43 w =>
  j2 (upd (mix [9,26,5] g3 e3) 19 t43) w)
  (j1 (upd (mix [20,9,26,5,19] g2 e2) 20 t20) w)) fun e1 g1 w =>
  join (mix [17,18,20,9,26,5,19] g1 e1) (fun j4 =>
  opv ((Builtin.len_ #[65] 3 #[t16]).run Tryz.prog w) R fun t45 w =>
  opv ((binE true .eql 3 t45 (.int .i64 0)).run Tryz.prog w) R fun t46 w =>
  cond t46 (opv ((Instr.buildSlice 62 0 #[]).run Tryz.prog w) R fun t47 w =>
  join (upd (upd (mix [17,18,20,9,26,5,19] g1 e1) 46 t46) 10 t47) (fun j5 =>
  opv ((Instr.fieldAt 27 t3 1).run Tryz.prog w) R fun t48 w =>
  opv ((Instr.loadAt 24 t48).run Tryz.prog w) R fun t49 w =>
  opv ((Builtin.len_ #[24] 3 #[t49]).run Tryz.prog w) R fun t50 w =>
  loop (upd (upd (upd (upd (mix [17,18,20,9,26,5,19] g1 e1) 46 t46) 10 t47) 50 t50) 51 (.int .i64 0)) w fun e6 g6 w j6 =>
  opv ((binOp .lss 3 (g6 51) t50).run Tryz.prog w) R fun t52 w =>
  cond t52 (opv ((Instr.buildSlice 62 1 #[(0, (g6 51))]).run Tryz.prog w) R fun t56 w =>
  opv ((Builtin.append_ #[62, 62] 62 #[(g6 10), t56]).run Tryz.prog w) R fun t57 w =>
  opv ((binOp .add 3 (g6 51) (.int .i64 1)).run Tryz.prog w) R fun t58 w =>
  j6 (upd (upd (upd (upd (mix [52,11,10,51] g6 e6) 52 t52) 11 (g6 51)) 10 t57) 51 t58) w)
  (j5 (upd (mix [52,11,10,51] g6 e6) 52 t52) w)) fun e5 g5 w =>
  callY Tryz.prog t14 #[(g5 10)] w R fun t61 w =>
  opv ((Builtin.len_ #[24] 3 #[t61]).run Tryz.prog w) R fun t63 w =>
  opv ((binOp .gtr 3 t63 (.int .i64 0)).run Tryz.prog w) R fun t64 w =>
  cond t64 (opv ((Instr.build 71 #[(0, (.int .i64 (-1))), (1, t61)]).run Tryz.prog w) R fun t67 w =>
  opv ((Instr.buildSlice 38 1 #[(0, t67)]).run Tryz.prog w) R fun t68 w =>
  opv ((Builtin.append_ #[38, 38] 38 #[(g1 5), t68]).run Tryz.prog w) R fun t69 w =>
  j4 (upd (upd (upd (mix [50,52,11,10,51] g5 e5) 12 t61) 64 t64) 5 t69) w)
  (j4 (upd (upd (mix [50,52,11,10,51] g5 e5) 12 t61) 64 t64) w))
  (j4 (upd (mix [17,18,20,9,26,5,19] g1 e1) 46 t46) w)) fun e4 g4 w =>
  opv ((Instr.loadAt 40 t2).run Tryz.prog w) R fun t70 w =>
  opv ((Instr.fieldAt 40 t2 0).run Tryz.prog w) R fun t71 w =>
  opv ((Instr.loadAt 5 t71).run Tryz.prog w) R fun t72 w =>
  opv ((Instr.fieldAt 40 t2 2).run Tryz.prog w) R fun t73 w =>
  opv ((Instr.loadAt 3 t73).run Tryz.prog w) R fun t74 w =>
  opv ((Instr.build 40 #[(0, t72), (2, t74), (3, (g4 5))]).run Tryz.prog w) R fun t76 w =>
  callF Tryz.prog 18 #[t70, t76] w R fun t77 w =>
  R (.returned t77) w
theorem F12.eq (R : Ending → World → Prop) (w : World) (a0 a1 : Value) : F12 R w a0 a1 = shF Tryz.prog 12 [0,1,2,3,4,5,6,7,9,10,11,12,17,18,19,20,26,46,50,51,52,64] [a0, a1] R w := by kernel_rfl
theorem F12.calls {R : Ending → World → Prop} {w : World} {a0 a1 : Value} (h : F12 R w a0 a1) : Calls Tryz.prog 12 #[a0, a1] w R := shF_sound (F12.eq R w a0 a1 ▸ h)

/-- greenscreen/greenscreenlaw25.stands -/
def F15 (R : Ending → World → Prop) (w : World) (a0 : Value) : Prop :=
  opv ((Instr.box 35 a0).run Tryz.prog w) R fun t1 w =>
  opv ((Instr.alloc 35 true (.tuple #[])).run Tryz.prog w) R fun t2 w =>
  opv ((Instr.fieldAt 35 t1 2).run Tryz.prog w) R fun t4 w =>
  opv ((Instr.loadAt 4 t4).run Tryz.prog w) R fun t5 w =>
  cond t5 (opv ((Instr.fieldAt 35 t1 0).run Tryz.prog w) R fun t6 w =>
  opv ((Instr.loadAt 5 t6).run Tryz.prog w) R fun t7 w =>
  opv ((binOp .and 5 t7 (.int .u8 63)).run Tryz.prog w) R fun t8 w =>
  opv ((Instr.build 35 #[(0, t8), (2, (.bool true))]).run Tryz.prog w) R fun t9 w =>
  opu ((Instr.storeAt 35 t2 t9).run Tryz.prog w) R fun _ w =>
  ldv ((Instr.loadAt 35 t2).run Tryz.prog w) w fun r0 =>
  R (.returned r0) w)
  (opv ((Instr.loadAt 35 t1).run Tryz.prog w) R fun t10 w =>
  callF Tryz.prog 38 #[t10] w R fun t11 w =>
  drawn w fun T w =>
  qop T w (fun w K => opv ((Builtin.len_ #[43] 3 #[t11]).run Tryz.prog w) noR K) fun t14 =>
  qop T w (fun w K => opv ((binOp .sub 3 t14 (.int .i64 1)).run Tryz.prog w) noR K) fun t15 =>
  qop T w (fun w K => opv ((Instr.indexAt 43 t11 t15).run Tryz.prog w) noR K) fun t16 =>
  qop T w (fun w K => opv ((Instr.loadAt 5 t16).run Tryz.prog w) noR K) fun t17 =>
  qop T w (fun w K => opv ((Instr.fieldAt 35 t1 1).run Tryz.prog w) noR K) fun t18 =>
  qop T w (fun w K => opv ((Instr.loadAt 4 t18).run Tryz.prog w) noR K) fun t19 =>
  qop T w (fun w K => opv ((Instr.build 35 #[(0, t17), (1, t19)]).run Tryz.prog w) noR K) fun t20 =>
  ext w fun w =>
  opu ((Instr.storeAt 35 t2 t20).run Tryz.prog w) R fun _ w =>
  ext w fun w =>
  ldv ((Instr.loadAt 35 t2).run Tryz.prog w) w fun r0 =>
  R (.returned r0) w)
theorem F15.eq (R : Ending → World → Prop) (w : World) (a0 : Value) : F15 R w a0 = shF Tryz.prog 15 [0,1,2,3,5] [a0] R w := by kernel_rfl
theorem F15.calls {R : Ending → World → Prop} {w : World} {a0 : Value} (h : F15 R w a0) : Calls Tryz.prog 15 #[a0] w R := shF_sound (F15.eq R w a0 ▸ h)

/-- greenscreen/greenscreenlaw25.items$1 -/
def F26 (R : Ending → World → Prop) (w : World) (a0 a1 : Value) : Prop :=
  opv ((Instr.buildSlice 24 0 #[]).run Tryz.prog w) R fun t7 w =>
  join (upd (upd (ini [a0, a1]) 3 (.slice none 0 0)) 4 t7) (fun j1 =>
  opv ((Builtin.len_ #[62] 3 #[a0]).run Tryz.prog w) R fun t9 w =>
  loop (upd (upd (upd (upd (upd (ini [a0, a1]) 3 (.slice none 0 0)) 4 t7) 8 a0) 9 t9) 10 (.int .i64 0)) w fun e2 g2 w j2 =>
  opv ((binOp .lss 3 (g2 10) t9).run Tryz.prog w) R fun t11 w =>
  cond t11 (join (upd (mix [11,6,20,4,10] g2 e2) 11 t11) (fun j3 =>
  opv ((Instr.indexAt 62 a0 (g2 10)).run Tryz.prog w) R fun t12 w =>
  opv ((Instr.loadAt 3 t12).run Tryz.prog w) R fun t13 w =>
  opv ((Instr.fieldAt 27 a1 1).run Tryz.prog w) R fun t14 w =>
  opv ((Instr.loadAt 24 t14).run Tryz.prog w) R fun t15 w =>
  opv ((Instr.indexAt 24 t15 t13).run Tryz.prog w) R fun t17 w =>
  opv ((Instr.loadAt 35 t17).run Tryz.prog w) R fun t18 w =>
  callF Tryz.prog 27 #[t18] w R fun t19 w =>
  opv ((Op.unary .not t19).run Tryz.prog w) R fun t20 w =>
  cond t20 (opv ((Instr.fieldAt 27 a1 1).run Tryz.prog w) R fun t22 w =>
  opv ((Instr.loadAt 24 t22).run Tryz.prog w) R fun t23 w =>
  opv ((Instr.indexAt 24 t23 t13).run Tryz.prog w) R fun t25 w =>
  opv ((Instr.loadAt 35 t25).run Tryz.prog w) R fun t26 w =>
  callF Tryz.prog 15 #[t26] w R fun t27 w =>
  opv ((Instr.buildSlice 24 1 #[(0, t27)]).run Tryz.prog w) R fun t28 w =>
  opv ((Builtin.append_ #[24, 24] 24 #[(g2 4), t28]).run Tryz.prog w) R fun t29 w =>
  j3 (upd (upd (upd (upd (mix [11,6,20,4,10] g2 e2) 11 t11) 6 t13) 20 t20) 4 t29) w)
  (j3 (upd (upd (upd (mix [11,6,20,4,10] g2 e2) 11 t11) 6 t13) 20 t20) w)) fun e3 g3 w =>
  opv ((binOp .add 3 (g2 10) (.int .i64 1)).run Tryz.prog w) R fun t30 w =>
  j2 (upd (mix [6,20,4] g3 e3) 10 t30) w)
  (j1 (upd (mix [11,6,20,4,10] g2 e2) 11 t11) w)) fun e1 g1 w =>
  R (.returned (g1 4)) w
theorem F26.eq (R : Ending → World → Prop) (w : World) (a0 a1 : Value) : F26 R w a0 a1 = shF Tryz.prog 26 [0,1,3,4,6,8,9,10,11,20] [a0, a1] R w := by kernel_rfl
theorem F26.calls {R : Ending → World → Prop} {w : World} {a0 a1 : Value} (h : F26 R w a0 a1) : Calls Tryz.prog 26 #[a0, a1] w R := shF_sound (F26.eq R w a0 a1 ▸ h)

end Go.Proofs.YtkjkmahpkfbbnaaGreatDoor
