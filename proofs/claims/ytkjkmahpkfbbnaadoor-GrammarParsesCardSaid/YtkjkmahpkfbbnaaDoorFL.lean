/-
  Shallow forms of functions of the loaded program, each tied to it. No condition.
-/
import Derived.Test.YtkjkmahpkfbbnaaDoorProg
import Derived.Test.YtkjkmahpkfbbnaaDoorShSound
import Derived.KernelRfl
namespace Go.Proofs.YtkjkmahpkfbbnaaDoor
open Go Go.Sh
set_option linter.unusedVariables false
set_option maxRecDepth 100000
/-- greenscreen/greenscreenlaw25.GrammarParses -/
def F3 (R : Ending → World → Prop) (w : World) (a0 a1 : Value) : Prop :=
  callF Tryd.prog 7 #[] w R fun t17 w =>
  opv ((Op.unary .not t17).run Tryd.prog w) R fun t18 w =>
  cond t18 (R (.returned (.bool false)) w)
  (opv ((Builtin.len_ #[22] 3 #[a0]).run Tryd.prog w) R fun t20 w =>
  opv ((binOp .gtr 3 t20 (.int .i64 600)).run Tryd.prog w) R fun t21 w =>
  cond t21 (R (.returned (.bool true)) w)
  (callF Tryd.prog 8 #[a0] w R fun t24 w =>
  opv ((Instr.extract t24 0).run Tryd.prog w) R fun t25 w =>
  opv ((Instr.extract t24 1).run Tryd.prog w) R fun t26 w =>
  opv ((Instr.alloc 26 true (.tuple #[])).run Tryd.prog w) R fun t5 w =>
  opu ((Instr.storeAt 26 t5 t25).run Tryd.prog w) R fun _ w =>
  callF Tryd.prog 9 #[a0] w R fun t29 w =>
  opv ((Instr.extract t29 0).run Tryd.prog w) R fun t30 w =>
  opv ((Instr.extract t29 1).run Tryd.prog w) R fun t31 w =>
  opv ((Instr.alloc 32 true (.tuple #[])).run Tryd.prog w) R fun t7 w =>
  opu ((Instr.storeAt 32 t7 t30).run Tryd.prog w) R fun _ w =>
  callF Tryd.prog 10 #[a0] w R fun t34 w =>
  opv ((Instr.extract t34 0).run Tryd.prog w) R fun t35 w =>
  opv ((Instr.extract t34 1).run Tryd.prog w) R fun t36 w =>
  opv ((Instr.extract t34 2).run Tryd.prog w) R fun t37 w =>
  opv ((Instr.extract t34 3).run Tryd.prog w) R fun t38 w =>
  callF Tryd.prog 11 #[a0] w R fun t41 w =>
  opv ((Instr.extract t41 0).run Tryd.prog w) R fun t42 w =>
  opv ((Instr.extract t41 1).run Tryd.prog w) R fun t43 w =>
  opv ((Instr.extract t41 2).run Tryd.prog w) R fun t44 w =>
  opv ((Instr.extract t41 3).run Tryd.prog w) R fun t45 w =>
  drawn w fun T w =>
  qop T w (fun w K => opv ((binE false .eql 3 t26 t31).run Tryd.prog w) noR K) fun t48 =>
  qop T w (fun w K => gd t48 true (fun K => opv ((Instr.loadAt 26 t5).run Tryd.prog w) noR K) w K) fun t50 =>
  qop T w (fun w K => gd t48 true (fun K => opv ((Instr.loadAt 32 t7).run Tryd.prog w) noR K) w K) fun t52 =>
  ext w fun w =>
  lop T w (fun w K => gd t48 true (fun K => callF Tryd.prog 13 #[t50] w R K) w K) fun t51 w =>
  qop T w (fun w K => gd t48 true (fun K => callF Tryd.prog 12 #[t51, t52] w noR K) w K) fun t53 =>
  qop T w (fun w K => pick t48 t53 (.bool false) w K) fun t54 =>
  qop T w (fun w K => gd t54 true (fun K => K a1 w) w K) fun t56 =>
  qop T w (fun w K => gd t54 true (fun K => opv ((Instr.loadAt 26 t5).run Tryd.prog w) noR K) w K) fun t57 =>
  qop T w (fun w K => gd t54 true (fun K => callF Tryd.prog 14 #[t56, t57] w noR K) w K) fun t58 =>
  qop T w (fun w K => gd t54 true (fun K => K a1 w) w K) fun t59 =>
  qop T w (fun w K => gd t54 true (fun K => opv ((Instr.loadAt 32 t7).run Tryd.prog w) noR K) w K) fun t60 =>
  qop T w (fun w K => gd t54 true (fun K => callF Tryd.prog 15 #[t59, t60] w noR K) w K) fun t61 =>
  qop T w (fun w K => gd t54 true (fun K => opv ((binE false .eql 9 t58 t61).run Tryd.prog w) noR K) w K) fun t62 =>
  qop T w (fun w K => pick t54 t62 (.bool false) w K) fun t63 =>
  qop T w (fun w K => gd t63 true (fun K => K t38 w) w K) fun t65 =>
  qop T w (fun w K => gd t63 true (fun K => K t45 w) w K) fun t66 =>
  qop T w (fun w K => gd t63 true (fun K => opv ((binE false .eql 3 t65 t66).run Tryd.prog w) noR K) w K) fun t67 =>
  qop T w (fun w K => pick t63 t67 (.bool false) w K) fun t68 =>
  qop T w (fun w K => gd t68 true (fun K => K t35 w) w K) fun t70 =>
  qop T w (fun w K => gd t68 true (fun K => K t42 w) w K) fun t71 =>
  qop T w (fun w K => gd t68 true (fun K => opv ((binE false .eql 5 t70 t71).run Tryd.prog w) noR K) w K) fun t72 =>
  qop T w (fun w K => pick t68 t72 (.bool false) w K) fun t73 =>
  qop T w (fun w K => gd t73 true (fun K => K t36 w) w K) fun t75 =>
  qop T w (fun w K => gd t73 true (fun K => K t43 w) w K) fun t76 =>
  qop T w (fun w K => gd t73 true (fun K => opv ((binE false .eql 3 t75 t76).run Tryd.prog w) noR K) w K) fun t77 =>
  qop T w (fun w K => pick t73 t77 (.bool false) w K) fun t78 =>
  qop T w (fun w K => gd t78 true (fun K => K t37 w) w K) fun t80 =>
  qop T w (fun w K => gd t78 true (fun K => K t44 w) w K) fun t81 =>
  qop T w (fun w K => gd t78 true (fun K => callF Tryd.prog 16 #[t80, t81] w noR K) w K) fun t82 =>
  qop T w (fun w K => pick t78 t82 (.bool false) w K) fun t83 =>
  ext w fun w =>
  R (.returned t83) w))
theorem F3.eq (R : Ending → World → Prop) (w : World) (a0 a1 : Value) : F3 R w a0 a1 = shF Tryd.prog 3 [0,1,4,5,6,7,8,9,10,11,12,13,14,15,16,18,21] [a0, a1] R w := by kernel_rfl
theorem F3.calls {R : Ending → World → Prop} {w : World} {a0 a1 : Value} (h : F3 R w a0 a1) : Calls Tryd.prog 3 #[a0, a1] w R := shF_sound (F3.eq R w a0 a1 ▸ h)

/-- greenscreen/greenscreenlaw25.GrammarWrites -/
def F4 (R : Ending → World → Prop) (w : World) (a0 a1 a2 a3 : Value) : Prop :=
  opv ((Instr.box 26 a0).run Tryd.prog w) R fun t4 w =>
  opv ((Instr.box 26 a1).run Tryd.prog w) R fun t5 w =>
  callF Tryd.prog 7 #[] w R fun t13 w =>
  opv ((Op.unary .not t13).run Tryd.prog w) R fun t14 w =>
  cond t14 (R (.returned (.bool false)) w)
  (opv ((Instr.loadAt 26 t4).run Tryd.prog w) R fun t15 w =>
  callF Tryd.prog 17 #[t15] w R fun t16 w =>
  opv ((Op.unary .not t16).run Tryd.prog w) R fun t17 w =>
  gd t17 false (fun K => opv ((Instr.loadAt 26 t5).run Tryd.prog w) R K) w fun t19 w =>
  gd t17 false (fun K => callF Tryd.prog 17 #[t19] w R K) w fun t20 w =>
  gd t17 false (fun K => opv ((Op.unary .not t20).run Tryd.prog w) R K) w fun t21 w =>
  pick t17 (.bool true) t21 w fun t22 w =>
  cond t22 (R (.returned (.bool true)) w)
  (opv ((Instr.loadAt 26 t4).run Tryd.prog w) R fun t24 w =>
  callF Tryd.prog 18 #[t24, a2] w R fun t26 w =>
  opv ((Instr.extract t26 0).run Tryd.prog w) R fun t27 w =>
  opv ((Instr.extract t26 1).run Tryd.prog w) R fun t28 w =>
  opv ((Instr.loadAt 26 t4).run Tryd.prog w) R fun t30 w =>
  callF Tryd.prog 13 #[t30] w R fun t31 w =>
  callF Tryd.prog 19 #[t31, a2] w R fun t33 w =>
  opv ((Instr.extract t33 0).run Tryd.prog w) R fun t34 w =>
  opv ((Instr.extract t33 1).run Tryd.prog w) R fun t35 w =>
  drawn w fun T w =>
  qop T w (fun w K => opv ((binE false .eql 3 t28 t35).run Tryd.prog w) noR K) fun t38 =>
  qop T w (fun w K => gd t38 true (fun K => K t27 w) w K) fun t40 =>
  qop T w (fun w K => gd t38 true (fun K => K t34 w) w K) fun t41 =>
  qop T w (fun w K => gd t38 true (fun K => callF Tryd.prog 20 #[t40, t41] w noR K) w K) fun t42 =>
  qop T w (fun w K => pick t38 t42 (.bool false) w K) fun t43 =>
  qop T w (fun w K => gd t43 true (fun K => K a3 w) w K) fun t45 =>
  qop T w (fun w K => gd t43 true (fun K => opv ((Instr.loadAt 26 t4).run Tryd.prog w) noR K) w K) fun t46 =>
  qop T w (fun w K => gd t43 true (fun K => callF Tryd.prog 14 #[t45, t46] w noR K) w K) fun t47 =>
  qop T w (fun w K => gd t43 true (fun K => K a3 w) w K) fun t48 =>
  qop T w (fun w K => gd t43 true (fun K => opv ((Instr.loadAt 26 t4).run Tryd.prog w) noR K) w K) fun t49 =>
  ext w fun w =>
  lop T w (fun w K => gd t43 true (fun K => callF Tryd.prog 13 #[t49] w R K) w K) fun t50 w =>
  qop T w (fun w K => gd t43 true (fun K => callF Tryd.prog 15 #[t48, t50] w noR K) w K) fun t51 =>
  qop T w (fun w K => gd t43 true (fun K => opv ((binE false .eql 9 t47 t51).run Tryd.prog w) noR K) w K) fun t52 =>
  qop T w (fun w K => pick t43 t52 (.bool false) w K) fun t53 =>
  qop T w (fun w K => gd t53 true (fun K => opv ((Instr.loadAt 26 t4).run Tryd.prog w) noR K) w K) fun t55 =>
  qop T w (fun w K => gd t53 true (fun K => opv ((Instr.loadAt 26 t5).run Tryd.prog w) noR K) w K) fun t56 =>
  qop T w (fun w K => gd t53 true (fun K => callF Tryd.prog 21 #[t55, t56] w noR K) w K) fun t57 =>
  qop T w (fun w K => gd t53 true (fun K => opv ((Instr.loadAt 26 t4).run Tryd.prog w) noR K) w K) fun t58 =>
  qop T w (fun w K => gd t53 true (fun K => opv ((Instr.loadAt 26 t5).run Tryd.prog w) noR K) w K) fun t60 =>
  ext w fun w =>
  lop T w (fun w K => gd t53 true (fun K => callF Tryd.prog 13 #[t58] w R K) w K) fun t59 w =>
  ext w fun w =>
  lop T w (fun w K => gd t53 true (fun K => callF Tryd.prog 13 #[t60] w R K) w K) fun t61 w =>
  qop T w (fun w K => gd t53 true (fun K => callF Tryd.prog 12 #[t59, t61] w noR K) w K) fun t62 =>
  qop T w (fun w K => gd t53 true (fun K => opv ((binE false .eql 4 t57 t62).run Tryd.prog w) noR K) w K) fun t63 =>
  qop T w (fun w K => pick t53 t63 (.bool false) w K) fun t64 =>
  ext w fun w =>
  R (.returned t64) w))
theorem F4.eq (R : Ending → World → Prop) (w : World) (a0 a1 a2 a3 : Value) : F4 R w a0 a1 a2 a3 = shF Tryd.prog 4 [0,1,2,3,4,5,8,9,10,11,12,14,22] [a0, a1, a2, a3] R w := by kernel_rfl
theorem F4.calls {R : Ending → World → Prop} {w : World} {a0 a1 a2 a3 : Value} (h : F4 R w a0 a1 a2 a3) : Calls Tryd.prog 4 #[a0, a1, a2, a3] w R := shF_sound (F4.eq R w a0 a1 a2 a3 ▸ h)

/-- greenscreen/greenscreenlaw25.GrammarBack -/
def F5 (R : Ending → World → Prop) (w : World) (a0 a1 a2 : Value) : Prop :=
  opv ((Instr.box 26 a0).run Tryd.prog w) R fun t3 w =>
  callF Tryd.prog 7 #[] w R fun t17 w =>
  opv ((Op.unary .not t17).run Tryd.prog w) R fun t18 w =>
  cond t18 (R (.returned (.bool false)) w)
  (opv ((Instr.loadAt 26 t3).run Tryd.prog w) R fun t19 w =>
  callF Tryd.prog 17 #[t19] w R fun t20 w =>
  opv ((Op.unary .not t20).run Tryd.prog w) R fun t21 w =>
  gd t21 false (fun K => K a2 w) w fun t23 w =>
  gd t21 false (fun K => opv ((Builtin.len_ #[22] 3 #[t23]).run Tryd.prog w) R K) w fun t24 w =>
  gd t21 false (fun K => opv ((binOp .gtr 3 t24 (.int .i64 600)).run Tryd.prog w) R K) w fun t25 w =>
  pick t21 (.bool true) t25 w fun t26 w =>
  cond t26 (R (.returned (.bool true)) w)
  (join (upd (upd (upd (upd (ini [a0, a1, a2]) 3 t3) 6 (.bool false)) 18 t18) 26 t26) (fun j1 =>
  opv ((Instr.loadAt 26 t3).run Tryd.prog w) R fun t28 w =>
  callF Tryd.prog 18 #[t28, a1] w R fun t30 w =>
  opv ((Instr.extract t30 0).run Tryd.prog w) R fun t31 w =>
  opv ((Instr.extract t30 1).run Tryd.prog w) R fun t32 w =>
  opv ((binE true .eql 27 t32 (.int .i64 0)).run Tryd.prog w) R fun t34 w =>
  cond t34 (callF Tryd.prog 8 #[t31] w R fun t37 w =>
  opv ((Instr.extract t37 0).run Tryd.prog w) R fun t38 w =>
  opv ((Instr.extract t37 1).run Tryd.prog w) R fun t39 w =>
  opv ((Instr.alloc 26 true (.tuple #[])).run Tryd.prog w) R fun t9 w =>
  opu ((Instr.storeAt 26 t9 t38).run Tryd.prog w) R fun _ w =>
  join (upd (upd (upd (upd (upd (upd (upd (upd (upd (ini [a0, a1, a2]) 3 t3) 6 (.bool false)) 18 t18) 26 t26) 7 t31) 8 t32) 34 t34) 9 t9) 10 t39) (fun j2 =>
  opv ((Instr.fieldAt 26 t3 1).run Tryd.prog w) R fun t40 w =>
  opv ((Instr.loadAt 4 t40).run Tryd.prog w) R fun t41 w =>
  cond t41 (opv ((Instr.fieldAt 26 t3 2).run Tryd.prog w) R fun t42 w =>
  opu ((Instr.storeAt 3 t42 (.int .i64 0)).run Tryd.prog w) R fun _ w =>
  opv ((Instr.fieldAt 26 t3 3).run Tryd.prog w) R fun t43 w =>
  opu ((Instr.storeAt 24 t43 (.slice none 0 0)).run Tryd.prog w) R fun _ w =>
  j2 (upd (upd (upd (upd (upd (upd (upd (upd (upd (upd (ini [a0, a1, a2]) 3 t3) 6 (.bool false)) 18 t18) 26 t26) 7 t31) 8 t32) 34 t34) 9 t9) 10 t39) 41 t41) w)
  (j2 (upd (upd (upd (upd (upd (upd (upd (upd (upd (upd (ini [a0, a1, a2]) 3 t3) 6 (.bool false)) 18 t18) 26 t26) 7 t31) 8 t32) 34 t34) 9 t9) 10 t39) 41 t41) w)) fun e2 g2 w =>
  join (mix [41] g2 e2) (fun j3 =>
  opv ((Instr.fieldAt 26 t3 3).run Tryd.prog w) R fun t44 w =>
  opv ((Instr.loadAt 24 t44).run Tryd.prog w) R fun t45 w =>
  opv ((Builtin.len_ #[24] 3 #[t45]).run Tryd.prog w) R fun t46 w =>
  opv ((binOp .gtr 3 t46 (.int .i64 0)).run Tryd.prog w) R fun t47 w =>
  gd t47 true (fun K => opv ((Instr.fieldAt 26 t3 3).run Tryd.prog w) R K) w fun t49 w =>
  gd t47 true (fun K => opv ((Instr.loadAt 24 t49).run Tryd.prog w) R K) w fun t50 w =>
  gd t47 true (fun K => opv ((Instr.indexAt 24 t50 (.int .i64 0)).run Tryd.prog w) R K) w fun t51 w =>
  gd t47 true (fun K => opv ((Instr.fieldAt 55 t51 0).run Tryd.prog w) R K) w fun t52 w =>
  gd t47 true (fun K => opv ((Instr.loadAt 3 t52).run Tryd.prog w) R K) w fun t53 w =>
  gd t47 true (fun K => opv ((binE true .eql 3 t53 (.int .i64 (-1))).run Tryd.prog w) R K) w fun t54 w =>
  pick t47 t54 (.bool false) w fun t55 w =>
  gd t55 true (fun K => opv ((Instr.fieldAt 26 t3 3).run Tryd.prog w) R K) w fun t57 w =>
  gd t55 true (fun K => opv ((Instr.loadAt 24 t57).run Tryd.prog w) R K) w fun t58 w =>
  gd t55 true (fun K => opv ((Instr.indexAt 24 t58 (.int .i64 0)).run Tryd.prog w) R K) w fun t59 w =>
  gd t55 true (fun K => opv ((Instr.fieldAt 55 t59 1).run Tryd.prog w) R K) w fun t60 w =>
  gd t55 true (fun K => opv ((Instr.loadAt 35 t60).run Tryd.prog w) R K) w fun t61 w =>
  gd t55 true (fun K => opv ((Builtin.len_ #[35] 3 #[t61]).run Tryd.prog w) R K) w fun t62 w =>
  gd t55 true (fun K => opv ((binE true .eql 3 t62 (.int .i64 0)).run Tryd.prog w) R K) w fun t63 w =>
  pick t55 t63 (.bool false) w fun t64 w =>
  cond t64 (opv ((Instr.fieldAt 26 t3 3).run Tryd.prog w) R fun t65 w =>
  opv ((Instr.loadAt 24 t65).run Tryd.prog w) R fun t66 w =>
  opv ((Instr.sliceAt 24 t66 (some (.int .i64 1)) none none).run Tryd.prog w) R fun t67 w =>
  opv ((Instr.fieldAt 26 t3 3).run Tryd.prog w) R fun t68 w =>
  opu ((Instr.storeAt 24 t68 t67).run Tryd.prog w) R fun _ w =>
  j3 (upd (mix [41] g2 e2) 64 t64) w)
  (j3 (upd (mix [41] g2 e2) 64 t64) w)) fun e3 g3 w =>
  opv ((binE true .neq 27 t39 (.int .i64 0)).run Tryd.prog w) R fun t70 w =>
  gd t70 false (fun K => opv ((Instr.loadAt 26 t9).run Tryd.prog w) R K) w fun t72 w =>
  gd t70 false (fun K => opv ((Instr.loadAt 26 t3).run Tryd.prog w) R K) w fun t73 w =>
  gd t70 false (fun K => callF Tryd.prog 21 #[t72, t73] w R K) w fun t74 w =>
  gd t70 false (fun K => opv ((Op.unary .not t74).run Tryd.prog w) R K) w fun t75 w =>
  pick t70 (.bool true) t75 w fun t76 w =>
  cond t76 (R (.returned (.bool false)) w)
  (j1 (upd (mix [64] g3 e3) 76 t76) w))
  (j1 (upd (upd (upd (upd (upd (upd (upd (ini [a0, a1, a2]) 3 t3) 6 (.bool false)) 18 t18) 26 t26) 7 t31) 8 t32) 34 t34) w)) fun e1 g1 w =>
  callF Tryd.prog 8 #[a2] w R fun t79 w =>
  opv ((Instr.extract t79 0).run Tryd.prog w) R fun t80 w =>
  opv ((Instr.extract t79 1).run Tryd.prog w) R fun t81 w =>
  opv ((Instr.alloc 26 true (.tuple #[])).run Tryd.prog w) R fun t11 w =>
  opu ((Instr.storeAt 26 t11 t80).run Tryd.prog w) R fun _ w =>
  opv ((binE true .neq 27 t81 (.int .i64 0)).run Tryd.prog w) R fun t83 w =>
  cond t83 (opv ((Instr.fieldAt 26 t11 0).run Tryd.prog w) R fun t84 w =>
  opv ((Instr.loadAt 5 t84).run Tryd.prog w) R fun t85 w =>
  opv ((binE true .eql 5 t85 (.int .u8 0)).run Tryd.prog w) R fun t86 w =>
  gd t86 true (fun K => opv ((Instr.fieldAt 26 t11 3).run Tryd.prog w) R K) w fun t88 w =>
  gd t86 true (fun K => opv ((Instr.loadAt 24 t88).run Tryd.prog w) R K) w fun t89 w =>
  gd t86 true (fun K => opv ((Builtin.len_ #[24] 3 #[t89]).run Tryd.prog w) R K) w fun t90 w =>
  gd t86 true (fun K => opv ((binE true .eql 3 t90 (.int .i64 0)).run Tryd.prog w) R K) w fun t91 w =>
  pick t86 t91 (.bool false) w fun t92 w =>
  R (.returned t92) w)
  (opv ((Instr.loadAt 26 t11).run Tryd.prog w) R fun t94 w =>
  callF Tryd.prog 18 #[t94, (.int .i64 16384)] w R fun t95 w =>
  opv ((Instr.extract t95 0).run Tryd.prog w) R fun t96 w =>
  opv ((Instr.extract t95 1).run Tryd.prog w) R fun t97 w =>
  callF Tryd.prog 8 #[t96] w R fun t100 w =>
  opv ((Instr.extract t100 0).run Tryd.prog w) R fun t101 w =>
  opv ((Instr.extract t100 1).run Tryd.prog w) R fun t102 w =>
  opv ((Instr.alloc 26 true (.tuple #[])).run Tryd.prog w) R fun t15 w =>
  opu ((Instr.storeAt 26 t15 t101).run Tryd.prog w) R fun _ w =>
  opv ((binE true .eql 27 t97 (.int .i64 0)).run Tryd.prog w) R fun t104 w =>
  gd t104 true (fun K => K t102 w) w fun t106 w =>
  gd t104 true (fun K => opv ((binE true .eql 27 t106 (.int .i64 0)).run Tryd.prog w) R K) w fun t107 w =>
  pick t104 t107 (.bool false) w fun t108 w =>
  gd t108 true (fun K => opv ((Instr.loadAt 26 t15).run Tryd.prog w) R K) w fun t110 w =>
  gd t108 true (fun K => opv ((Instr.loadAt 26 t11).run Tryd.prog w) R K) w fun t111 w =>
  gd t108 true (fun K => callF Tryd.prog 21 #[t110, t111] w R K) w fun t112 w =>
  pick t108 t112 (.bool false) w fun t113 w =>
  R (.returned t113) w)))
theorem F5.eq (R : Ending → World → Prop) (w : World) (a0 a1 a2 : Value) : F5 R w a0 a1 a2 = shF Tryd.prog 5 [0,1,2,3,6,7,8,9,10,11,12,13,14,15,16,18,26,34,41,64,76,83] [a0, a1, a2] R w := by kernel_rfl
theorem F5.calls {R : Ending → World → Prop} {w : World} {a0 a1 a2 : Value} (h : F5 R w a0 a1 a2) : Calls Tryd.prog 5 #[a0, a1, a2] w R := shF_sound (F5.eq R w a0 a1 a2 ▸ h)

/-- greenscreen/greenscreenlaw25.GrammarItems -/
def F6 (R : Ending → World → Prop) (w : World) (a0 a1 a2 : Value) : Prop :=
  opv ((Instr.box 26 a0).run Tryd.prog w) R fun t3 w =>
  callF Tryd.prog 7 #[] w R fun t17 w =>
  opv ((Op.unary .not t17).run Tryd.prog w) R fun t18 w =>
  cond t18 (R (.returned (.bool false)) w)
  (opv ((Instr.loadAt 26 t3).run Tryd.prog w) R fun t19 w =>
  callF Tryd.prog 17 #[t19] w R fun t20 w =>
  opv ((Op.unary .not t20).run Tryd.prog w) R fun t21 w =>
  gd t21 false (fun K => opv ((Instr.fieldAt 26 t3 1).run Tryd.prog w) R K) w fun t23 w =>
  gd t21 false (fun K => opv ((Instr.loadAt 4 t23).run Tryd.prog w) R K) w fun t24 w =>
  pick t21 (.bool true) t24 w fun t25 w =>
  gd t25 false (fun K => opv ((Instr.fieldAt 26 t3 3).run Tryd.prog w) R K) w fun t27 w =>
  gd t25 false (fun K => opv ((Instr.loadAt 24 t27).run Tryd.prog w) R K) w fun t28 w =>
  gd t25 false (fun K => opv ((Builtin.len_ #[24] 3 #[t28]).run Tryd.prog w) R K) w fun t29 w =>
  gd t25 false (fun K => opv ((binOp .lss 3 t29 (.int .i64 2)).run Tryd.prog w) R K) w fun t30 w =>
  pick t25 (.bool true) t30 w fun t31 w =>
  cond t31 (R (.returned (.bool true)) w)
  (opv ((Instr.loadAt 26 t3).run Tryd.prog w) R fun t33 w =>
  callF Tryd.prog 18 #[t33, a1] w R fun t35 w =>
  opv ((Instr.extract t35 0).run Tryd.prog w) R fun t36 w =>
  opv ((Instr.extract t35 1).run Tryd.prog w) R fun t37 w =>
  opv ((binE true .neq 27 t37 (.int .i64 0)).run Tryd.prog w) R fun t39 w =>
  cond t39 (R (.returned (.bool true)) w)
  (opv ((Instr.loadAt 26 t3).run Tryd.prog w) R fun t40 w =>
  opv ((Instr.alloc 26 true (.tuple #[])).run Tryd.prog w) R fun t9 w =>
  opu ((Instr.storeAt 26 t9 t40).run Tryd.prog w) R fun _ w =>
  opv ((Instr.fieldAt 26 t3 3).run Tryd.prog w) R fun t41 w =>
  opv ((Instr.loadAt 24 t41).run Tryd.prog w) R fun t42 w =>
  opv ((Instr.fieldAt 26 t3 3).run Tryd.prog w) R fun t43 w =>
  opv ((Instr.loadAt 24 t43).run Tryd.prog w) R fun t44 w =>
  opv ((Builtin.len_ #[24] 3 #[t44]).run Tryd.prog w) R fun t45 w =>
  opv ((binOp .sub 3 t45 (.int .i64 1)).run Tryd.prog w) R fun t46 w =>
  opv ((Instr.sliceAt 24 t42 none (some t46) none).run Tryd.prog w) R fun t47 w =>
  opv ((Instr.fieldAt 26 t9 3).run Tryd.prog w) R fun t48 w =>
  opu ((Instr.storeAt 24 t48 t47).run Tryd.prog w) R fun _ w =>
  opv ((Instr.loadAt 26 t9).run Tryd.prog w) R fun t50 w =>
  callF Tryd.prog 18 #[t50, a1] w R fun t52 w =>
  opv ((Instr.extract t52 0).run Tryd.prog w) R fun t53 w =>
  opv ((Instr.extract t52 1).run Tryd.prog w) R fun t54 w =>
  drawn w fun T w =>
  qop T w (fun w K => opv ((Instr.fieldAt 26 t3 0).run Tryd.prog w) noR K) fun t55 =>
  qop T w (fun w K => opv ((Instr.loadAt 5 t55).run Tryd.prog w) noR K) fun t56 =>
  qop T w (fun w K => opv ((Instr.fieldAt 26 t3 2).run Tryd.prog w) noR K) fun t57 =>
  qop T w (fun w K => opv ((Instr.loadAt 3 t57).run Tryd.prog w) noR K) fun t58 =>
  qop T w (fun w K => opv ((Instr.fieldAt 26 t3 3).run Tryd.prog w) noR K) fun t59 =>
  qop T w (fun w K => opv ((Instr.loadAt 24 t59).run Tryd.prog w) noR K) fun t60 =>
  qop T w (fun w K => opv ((Instr.fieldAt 26 t3 3).run Tryd.prog w) noR K) fun t61 =>
  qop T w (fun w K => opv ((Instr.loadAt 24 t61).run Tryd.prog w) noR K) fun t62 =>
  qop T w (fun w K => opv ((Builtin.len_ #[24] 3 #[t62]).run Tryd.prog w) noR K) fun t63 =>
  qop T w (fun w K => opv ((binOp .sub 3 t63 (.int .i64 1)).run Tryd.prog w) noR K) fun t64 =>
  qop T w (fun w K => opv ((Instr.sliceAt 24 t60 (some t64) none none).run Tryd.prog w) noR K) fun t65 =>
  qop T w (fun w K => opv ((Instr.build 26 #[(0, t56), (2, t58), (3, t65)]).run Tryd.prog w) noR K) fun t66 =>
  ext w fun w =>
  lop T w (fun w K => opv ((Instr.alloc 26 true (.tuple #[])).run Tryd.prog w) R K) fun t12 w =>
  ext w fun w =>
  opu ((Instr.storeAt 26 t12 t66).run Tryd.prog w) R fun _ w =>
  ext w fun w =>
  opv ((Instr.loadAt 26 t12).run Tryd.prog w) R fun t68 w =>
  callF Tryd.prog 18 #[t68, a1] w R fun t70 w =>
  opv ((Instr.extract t70 0).run Tryd.prog w) R fun t71 w =>
  opv ((Instr.extract t70 1).run Tryd.prog w) R fun t72 w =>
  drawn w fun T w =>
  qop T w (fun w K => opv ((binE true .neq 27 t54 (.int .i64 0)).run Tryd.prog w) noR K) fun t74 =>
  qop T w (fun w K => gd t74 false (fun K => K t72 w) w K) fun t76 =>
  qop T w (fun w K => gd t74 false (fun K => opv ((binE true .neq 27 t76 (.int .i64 0)).run Tryd.prog w) noR K) w K) fun t77 =>
  qop T w (fun w K => pick t74 (.bool true) t77 w K) fun t78 =>
  qop T w (fun w K => gd t78 false (fun K => K t36 w) w K) fun t80 =>
  qop T w (fun w K => gd t78 false (fun K => opv ((convert 22 9 t80).run Tryd.prog w) noR K) w K) fun t81 =>
  qop T w (fun w K => gd t78 false (fun K => K t53 w) w K) fun t82 =>
  qop T w (fun w K => gd t78 false (fun K => opv ((convert 22 9 t82).run Tryd.prog w) noR K) w K) fun t83 =>
  qop T w (fun w K => gd t78 false (fun K => K t71 w) w K) fun t84 =>
  qop T w (fun w K => gd t78 false (fun K => opv ((Instr.sliceAt 22 t84 (some (.int .i64 3)) none none).run Tryd.prog w) noR K) w K) fun t85 =>
  qop T w (fun w K => gd t78 false (fun K => opv ((convert 22 9 t85).run Tryd.prog w) noR K) w K) fun t86 =>
  qop T w (fun w K => gd t78 false (fun K => opv ((binOp .add 9 t83 t86).run Tryd.prog w) noR K) w K) fun t87 =>
  qop T w (fun w K => gd t78 false (fun K => opv ((binE false .neq 9 t81 t87).run Tryd.prog w) noR K) w K) fun t88 =>
  qop T w (fun w K => pick t78 (.bool true) t88 w K) fun t89 =>
  ext w fun w =>
  cond t89 (R (.returned (.bool false)) w)
  (drawn w fun T w =>
  qop T w (fun w K => opv ((Instr.loadAt 26 t9).run Tryd.prog w) noR K) fun t91 =>
  qop T w (fun w K => callF Tryd.prog 14 #[a2, t91] w noR K) fun t92 =>
  qop T w (fun w K => opv ((Instr.loadAt 26 t3).run Tryd.prog w) noR K) fun t94 =>
  qop T w (fun w K => callF Tryd.prog 14 #[a2, t94] w noR K) fun t95 =>
  ext w fun w =>
  opv ((Builtin.len_ #[9] 3 #[t95]).run Tryd.prog w) R fun t97 w =>
  opv ((Builtin.len_ #[9] 3 #[t92]).run Tryd.prog w) R fun t99 w =>
  opv ((binOp .gtr 3 t97 t99).run Tryd.prog w) R fun t100 w =>
  gd t100 true (fun K => K t95 w) w fun t102 w =>
  gd t100 true (fun K => K t92 w) w fun t103 w =>
  gd t100 true (fun K => opv ((Builtin.len_ #[9] 3 #[t103]).run Tryd.prog w) R K) w fun t104 w =>
  gd t100 true (fun K => opv ((Instr.sliceAt 9 t102 none (some t104) none).run Tryd.prog w) R K) w fun t105 w =>
  gd t100 true (fun K => K t92 w) w fun t106 w =>
  gd t100 true (fun K => opv ((binE false .eql 9 t105 t106).run Tryd.prog w) R K) w fun t107 w =>
  pick t100 t107 (.bool false) w fun t108 w =>
  gd t108 true (fun K => opv ((Instr.loadAt 26 t3).run Tryd.prog w) R K) w fun t110 w =>
  gd t108 true (fun K => opv ((Instr.loadAt 26 t9).run Tryd.prog w) R K) w fun t111 w =>
  gd t108 true (fun K => callF Tryd.prog 21 #[t110, t111] w R K) w fun t112 w =>
  gd t108 true (fun K => opv ((Op.unary .not t112).run Tryd.prog w) R K) w fun t113 w =>
  pick t108 t113 (.bool false) w fun t114 w =>
  R (.returned t114) w))))
theorem F6.eq (R : Ending → World → Prop) (w : World) (a0 a1 a2 : Value) : F6 R w a0 a1 a2 = shF Tryd.prog 6 [0,1,2,3,6,7,8,9,10,11,12,13,14,15,16,18,31,39,89] [a0, a1, a2] R w := by kernel_rfl
theorem F6.calls {R : Ending → World → Prop} {w : World} {a0 a1 a2 : Value} (h : F6 R w a0 a1 a2) : Calls Tryd.prog 6 #[a0, a1, a2] w R := shF_sound (F6.eq R w a0 a1 a2 ▸ h)

/-- greenscreen/greenscreenlaw25.alive -/
def F7 (R : Ending → World → Prop) (w : World) : Prop :=
  opv ((Instr.buildSlice 22 7 #[(0, (.int .u8 125)), (1, (.int .u8 64)), (2, (.int .u8 194)), (3, (.int .u8 17)), (4, (.int .u8 64)), (5, (.int .u8 193)), (6, (.int .u8 193))]).run Tryd.prog w) R fun t14 w =>
  callF Tryd.prog 8 #[t14] w R fun t15 w =>
  opv ((Instr.extract t15 0).run Tryd.prog w) R fun t16 w =>
  opv ((Instr.extract t15 1).run Tryd.prog w) R fun t17 w =>
  opv ((Instr.alloc 26 true (.tuple #[])).run Tryd.prog w) R fun t1 w =>
  opu ((Instr.storeAt 26 t1 t16).run Tryd.prog w) R fun _ w =>
  opv ((Instr.buildSlice 22 1 #[(0, (.int .u8 108))]).run Tryd.prog w) R fun t19 w =>
  callF Tryd.prog 8 #[t19] w R fun t20 w =>
  opv ((Instr.extract t20 0).run Tryd.prog w) R fun t21 w =>
  opv ((Instr.extract t20 1).run Tryd.prog w) R fun t22 w =>
  opv ((Instr.alloc 26 true (.tuple #[])).run Tryd.prog w) R fun t3 w =>
  opu ((Instr.storeAt 26 t3 t21).run Tryd.prog w) R fun _ w =>
  opv ((Instr.buildSlice 22 2 #[(0, (.int .u8 125)), (1, (.int .u8 64))]).run Tryd.prog w) R fun t24 w =>
  callF Tryd.prog 8 #[t24] w R fun t25 w =>
  opv ((Instr.extract t25 0).run Tryd.prog w) R fun t26 w =>
  opv ((Instr.extract t25 1).run Tryd.prog w) R fun t27 w =>
  opv ((Instr.alloc 26 true (.tuple #[])).run Tryd.prog w) R fun t5 w =>
  opu ((Instr.storeAt 26 t5 t26).run Tryd.prog w) R fun _ w =>
  opv ((Instr.buildSlice 22 6 #[(0, (.int .u8 96)), (1, (.int .u8 64)), (2, (.int .u8 64)), (3, (.int .u8 29)), (4, (.int .u8 240)), (5, (.int .u8 193))]).run Tryd.prog w) R fun t29 w =>
  callF Tryd.prog 10 #[t29] w R fun t30 w =>
  opv ((Instr.extract t30 0).run Tryd.prog w) R fun t31 w =>
  opv ((Instr.extract t30 1).run Tryd.prog w) R fun t32 w =>
  opv ((Instr.extract t30 2).run Tryd.prog w) R fun t33 w =>
  opv ((Instr.extract t30 3).run Tryd.prog w) R fun t34 w =>
  opv ((Instr.loadAt 26 t1).run Tryd.prog w) R fun t36 w =>
  callF Tryd.prog 18 #[t36, (.int .i64 6)] w R fun t37 w =>
  opv ((Instr.extract t37 0).run Tryd.prog w) R fun t38 w =>
  opv ((Instr.extract t37 1).run Tryd.prog w) R fun t39 w =>
  opv ((binE true .eql 27 t17 (.int .i64 0)).run Tryd.prog w) R fun t41 w =>
  gd t41 true (fun K => opv ((Instr.loadAt 26 t1).run Tryd.prog w) R K) w fun t43 w =>
  gd t41 true (fun K => callF Tryd.prog 14 #[(.int .i64 37), t43] w R K) w fun t44 w =>
  gd t41 true (fun K => opv ((binE true .eql 9 t44 (.string ⟨#[69, 78, 84, 69, 82, 32, 64, 50, 32, 49, 61, 65]⟩)).run Tryd.prog w) R K) w fun t45 w =>
  pick t41 t45 (.bool false) w fun t46 w =>
  gd t46 true (fun K => K t22 w) w fun t48 w =>
  gd t46 true (fun K => opv ((binE true .eql 27 t48 (.int .i64 0)).run Tryd.prog w) R K) w fun t49 w =>
  pick t46 t49 (.bool false) w fun t50 w =>
  gd t50 true (fun K => opv ((Instr.fieldAt 26 t3 1).run Tryd.prog w) R K) w fun t52 w =>
  gd t50 true (fun K => opv ((Instr.loadAt 4 t52).run Tryd.prog w) R K) w fun t53 w =>
  pick t50 t53 (.bool false) w fun t54 w =>
  gd t54 true (fun K => opv ((Instr.loadAt 26 t3).run Tryd.prog w) R K) w fun t56 w =>
  gd t54 true (fun K => callF Tryd.prog 14 #[(.int .i64 37), t56] w R K) w fun t57 w =>
  gd t54 true (fun K => opv ((binE true .eql 9 t57 (.string ⟨#[80, 65, 49]⟩)).run Tryd.prog w) R K) w fun t58 w =>
  pick t54 t58 (.bool false) w fun t59 w =>
  gd t59 true (fun K => K t27 w) w fun t61 w =>
  gd t59 true (fun K => opv ((binE true .eql 27 t61 (.int .i64 20)).run Tryd.prog w) R K) w fun t62 w =>
  pick t59 t62 (.bool false) w fun t63 w =>
  gd t63 true (fun K => K t31 w) w fun t65 w =>
  gd t63 true (fun K => opv ((binE true .eql 5 t65 (.int .u8 96)).run Tryd.prog w) R K) w fun t66 w =>
  pick t63 t66 (.bool false) w fun t67 w =>
  gd t67 true (fun K => K t32 w) w fun t69 w =>
  gd t67 true (fun K => opv ((binE true .eql 3 t69 (.int .i64 0)).run Tryd.prog w) R K) w fun t70 w =>
  pick t67 t70 (.bool false) w fun t71 w =>
  gd t71 true (fun K => K t33 w) w fun t73 w =>
  gd t71 true (fun K => opv ((Builtin.len_ #[35] 3 #[t73]).run Tryd.prog w) R K) w fun t74 w =>
  gd t71 true (fun K => opv ((binE true .eql 3 t74 (.int .i64 2)).run Tryd.prog w) R K) w fun t75 w =>
  pick t71 t75 (.bool false) w fun t76 w =>
  gd t76 true (fun K => K t33 w) w fun t78 w =>
  gd t76 true (fun K => opv ((Instr.indexAt 35 t78 (.int .i64 0)).run Tryd.prog w) R K) w fun t79 w =>
  gd t76 true (fun K => opv ((Instr.loadAt 59 t79).run Tryd.prog w) R K) w fun t80 w =>
  gd t76 true (fun K => opv ((Instr.build 59 #[(0, (.int .u8 48)), (2, (.bool true))]).run Tryd.prog w) R K) w fun t81 w =>
  gd t76 true (fun K => opv ((binE false .eql 59 t80 t81).run Tryd.prog w) R K) w fun t82 w =>
  pick t76 t82 (.bool false) w fun t83 w =>
  gd t83 true (fun K => K t34 w) w fun t85 w =>
  gd t83 true (fun K => opv ((binE true .eql 27 t85 (.int .i64 0)).run Tryd.prog w) R K) w fun t86 w =>
  pick t83 t86 (.bool false) w fun t87 w =>
  gd t87 true (fun K => K t38 w) w fun t89 w =>
  gd t87 true (fun K => opv ((convert 22 9 t89).run Tryd.prog w) R K) w fun t90 w =>
  gd t87 true (fun K => opv ((binE true .eql 9 t90 (.string ⟨#[125, 64, 194, 17, 64, 193, 193]⟩)).run Tryd.prog w) R K) w fun t91 w =>
  pick t87 t91 (.bool false) w fun t92 w =>
  gd t92 true (fun K => K t39 w) w fun t94 w =>
  gd t92 true (fun K => opv ((binE true .eql 27 t94 (.int .i64 0)).run Tryd.prog w) R K) w fun t95 w =>
  pick t92 t95 (.bool false) w fun t96 w =>
  gd t96 true (fun K => opv ((Instr.loadAt 26 t1).run Tryd.prog w) R K) w fun t98 w =>
  gd t96 true (fun K => opv ((Instr.loadAt 26 t1).run Tryd.prog w) R K) w fun t99 w =>
  gd t96 true (fun K => callF Tryd.prog 21 #[t98, t99] w R K) w fun t100 w =>
  pick t96 t100 (.bool false) w fun t101 w =>
  gd t101 true (fun K => opv ((Instr.loadAt 26 t1).run Tryd.prog w) R K) w fun t103 w =>
  gd t101 true (fun K => opv ((Instr.loadAt 26 t3).run Tryd.prog w) R K) w fun t104 w =>
  gd t101 true (fun K => callF Tryd.prog 21 #[t103, t104] w R K) w fun t105 w =>
  gd t101 true (fun K => opv ((Op.unary .not t105).run Tryd.prog w) R K) w fun t106 w =>
  pick t101 t106 (.bool false) w fun t107 w =>
  R (.returned t107) w
theorem F7.eq (R : Ending → World → Prop) (w : World) : F7 R w  = shF Tryd.prog 7 [0,1,2,3,4,6,7,8,9,10,11,12] [] R w := by kernel_rfl
theorem F7.calls {R : Ending → World → Prop} {w : World} (h : F7 R w ) : Calls Tryd.prog 7 #[] w R := shF_sound (F7.eq R w  ▸ h)

end Go.Proofs.YtkjkmahpkfbbnaaDoor
