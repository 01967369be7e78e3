/-
  Shallow forms of functions of the loaded program, each tied to it. No condition.
-/
import Derived.Test.YtjdoakbadehicaaGreatDoorProg
import Derived.Test.YtjdoakbadehicaaGreatDoorShSound
import Derived.KernelRfl
namespace Go.Proofs.YtjdoakbadehicaaGreatDoor
open Go Go.Sh
set_option linter.unusedVariables false
set_option maxRecDepth 100000
/-- greenscreen/greenscreentop.WholeTyped -/
def F3 (R : Ending → World → Prop) (w : World) (a0 a1 a2 a3 : Value) : Prop :=
  callF Tryz.prog 8 #[] w R fun t26 w =>
  opv ((Op.unary .not t26).run Tryz.prog w) R fun t27 w =>
  cond t27 (R (.returned (.bool false)) w)
  (opv ((Builtin.len_ #[9] 3 #[a2]).run Tryz.prog w) R fun t29 w =>
  opv ((binOp .gtr 3 t29 (.int .i64 40)).run Tryz.prog w) R fun t30 w =>
  gd t30 false (fun K => K a3 w) w fun t32 w =>
  gd t30 false (fun K => callF Tryz.prog 9 #[t32] w R K) w fun t33 w =>
  gd t30 false (fun K => opv ((Op.unary .not t33).run Tryz.prog w) R K) w fun t34 w =>
  pick t30 (.bool true) t34 w fun t35 w =>
  gd t35 false (fun K => K a3 w) w fun t37 w =>
  gd t35 false (fun K => callF Tryz.prog 10 #[t37] w R K) w fun t38 w =>
  pick t35 (.bool true) t38 w fun t39 w =>
  cond t39 (R (.returned (.bool true)) w)
  (callF Tryz.prog 11 #[a0, a2] w R fun t43 w =>
  opv ((Instr.extract t43 0).run Tryz.prog w) R fun t44 w =>
  opv ((Instr.extract t43 1).run Tryz.prog w) R fun t45 w =>
  opv ((Builtin.len_ #[24] 3 #[t44]).run Tryz.prog w) R fun t47 w =>
  opv ((binOp .add 3 t47 (.int .i64 1)).run Tryz.prog w) R fun t48 w =>
  opv ((binOp .and 3 a1 (.int .i64 15)).run Tryz.prog w) R fun t50 w =>
  opv ((binOp .add 3 t48 t50).run Tryz.prog w) R fun t51 w =>
  opv ((binOp .add 3 t51 (.int .i64 3)).run Tryz.prog w) R fun t54 w =>
  opv ((Instr.build 32 #[(0, (.int .i64 1)), (1, t54)]).run Tryz.prog w) R fun t55 w =>
  opv ((binOp .add 3 t51 (.int .i64 3)).run Tryz.prog w) R fun t57 w =>
  opv ((Instr.build 32 #[(0, (.int .i64 1)), (1, t57)]).run Tryz.prog w) R fun t58 w =>
  callF Tryz.prog 12 #[t55, t58] w R fun t59 w =>
  opv ((Instr.extract t59 0).run Tryz.prog w) R fun t60 w =>
  opv ((Instr.extract t59 1).run Tryz.prog w) R fun t61 w =>
  opv ((binE true .neq 25 t45 (.int .i64 0)).run Tryz.prog w) R fun t63 w =>
  gd t63 false (fun K => K t61 w) w fun t65 w =>
  gd t63 false (fun K => opv ((binE true .neq 25 t65 (.int .i64 0)).run Tryz.prog w) R K) w fun t66 w =>
  pick t63 (.bool true) t66 w fun t67 w =>
  cond t67 (R (.returned (.bool true)) w)
  (callF Tryz.prog 13 #[t60] w R fun t69 w =>
  opv ((Instr.build 37 #[(2, (.bool true))]).run Tryz.prog w) R fun t71 w =>
  callF Tryz.prog 14 #[t69, (.int .i64 0), t71] w R fun t72 w =>
  opv ((binOp .add 3 t51 (.int .i64 1)).run Tryz.prog w) R fun t75 w =>
  opv ((Instr.build 37 #[(2, (.bool true)), (0, (.int .u8 48))]).run Tryz.prog w) R fun t76 w =>
  callF Tryz.prog 14 #[t69, t75, t76] w R fun t77 w =>
  callF Tryz.prog 15 #[t60] w R fun t79 w =>
  callF Tryz.prog 16 #[t79] w R fun t81 w =>
  callF Tryz.prog 17 #[t81] w R fun t82 w =>
  opv ((Instr.build 45 #[(0, (.int .i64 5))]).run Tryz.prog w) R fun t84 w =>
  callF Tryz.prog 18 #[t79, t84] w R fun t85 w =>
  join (upd (upd (upd (upd (upd (upd (upd (upd (upd (upd (upd (ini [a0, a1, a2, a3]) 8 (.bool false)) 27 t27) 39 t39) 9 t44) 10 t45) 1 t51) 11 t60) 12 t61) 67 t67) 13 t69) 14 t79) (fun j1 =>
  opv ((Builtin.len_ #[24] 3 #[t44]).run Tryz.prog w) R fun t87 w =>
  loop (upd (upd (upd (upd (upd (upd (upd (upd (upd (upd (upd (upd (upd (upd (ini [a0, a1, a2, a3]) 8 (.bool false)) 27 t27) 39 t39) 9 t44) 10 t45) 1 t51) 11 t60) 12 t61) 67 t67) 13 t69) 14 t79) 86 t44) 87 t87) 88 (.int .i64 0)) w fun e2 g2 w j2 =>
  opv ((binOp .lss 3 (g2 88) t87).run Tryz.prog w) R fun t89 w =>
  cond t89 (opv ((Instr.indexAt 24 t44 (g2 88)).run Tryz.prog w) R fun t90 w =>
  opv ((Instr.loadAt 5 t90).run Tryz.prog w) R fun t91 w =>
  opv ((Instr.build 45 #[(0, (.int .i64 1)), (1, t91)]).run Tryz.prog w) R fun t95 w =>
  callF Tryz.prog 18 #[t79, t95] w R fun t96 w =>
  opv ((Instr.extract t96 0).run Tryz.prog w) R fun t97 w =>
  opv ((Instr.extract t96 1).run Tryz.prog w) R fun t98 w =>
  opv ((binE true .neq 25 t98 (.int .i64 0)).run Tryz.prog w) R fun t100 w =>
  cond t100 (R (.returned (.bool false)) w)
  (opv ((binOp .add 3 (g2 88) (.int .i64 1)).run Tryz.prog w) R fun t101 w =>
  j2 (upd (upd (upd (upd (upd (mix [89,16,18,100,8,88] g2 e2) 89 t89) 16 t91) 18 t98) 100 t100) 88 t101) w))
  (j1 (upd (mix [89,16,18,100,8,88] g2 e2) 89 t89) w)) fun e1 g1 w =>
  opv ((Instr.build 45 #[(0, (.int .i64 17)), (1, a3)]).run Tryz.prog w) R fun t105 w =>
  callF Tryz.prog 18 #[t79, t105] w R fun t106 w =>
  opv ((Instr.extract t106 0).run Tryz.prog w) R fun t107 w =>
  opv ((Instr.extract t106 1).run Tryz.prog w) R fun t108 w =>
  callF Tryz.prog 20 #[t69, a3] w R fun t112 w =>
  callF Tryz.prog 19 #[t112] w R fun t113 w =>
  opv ((Instr.extract t113 0).run Tryz.prog w) R fun t114 w =>
  opv ((Instr.extract t113 1).run Tryz.prog w) R fun t115 w =>
  opv ((Instr.alloc 48 true (.tuple #[])).run Tryz.prog w) R fun t21 w =>
  opu ((Instr.storeAt 48 t21 t114).run Tryz.prog w) R fun _ w =>
  opv ((Op.unary .not t107).run Tryz.prog w) R fun t117 w =>
  gd t117 false (fun K => K t108 w) w fun t119 w =>
  gd t117 false (fun K => opv ((binE true .neq 25 t119 (.int .i64 0)).run Tryz.prog w) R K) w fun t120 w =>
  pick t117 (.bool true) t120 w fun t121 w =>
  gd t121 false (fun K => K t115 w) w fun t123 w =>
  gd t121 false (fun K => opv ((binE true .neq 25 t123 (.int .i64 0)).run Tryz.prog w) R K) w fun t124 w =>
  pick t121 (.bool true) t124 w fun t125 w =>
  gd t125 false (fun K => opv ((Instr.fieldAt 48 t21 3).run Tryz.prog w) R K) w fun t127 w =>
  gd t125 false (fun K => opv ((Instr.loadAt 46 t127).run Tryz.prog w) R K) w fun t128 w =>
  gd t125 false (fun K => opv ((Builtin.len_ #[46] 3 #[t128]).run Tryz.prog w) R K) w fun t129 w =>
  gd t125 false (fun K => K t44 w) w fun t130 w =>
  gd t125 false (fun K => opv ((Builtin.len_ #[24] 3 #[t130]).run Tryz.prog w) R K) w fun t131 w =>
  gd t125 false (fun K => opv ((Builtin.min_ #[3, 3] 3 #[t131, (.int .i64 1)]).run Tryz.prog w) R K) w fun t132 w =>
  gd t125 false (fun K => opv ((binE false .neq 3 t129 t132).run Tryz.prog w) R K) w fun t133 w =>
  pick t125 (.bool true) t133 w fun t134 w =>
  gd t134 false (fun K => opv ((Instr.fieldAt 48 t21 2).run Tryz.prog w) R K) w fun t136 w =>
  gd t134 false (fun K => opv ((Instr.loadAt 3 t136).run Tryz.prog w) R K) w fun t137 w =>
  gd t134 false (fun K => K t44 w) w fun t138 w =>
  gd t134 false (fun K => opv ((Builtin.len_ #[24] 3 #[t138]).run Tryz.prog w) R K) w fun t139 w =>
  gd t134 false (fun K => opv ((binOp .add 3 (.int .i64 1) t139).run Tryz.prog w) R K) w fun t140 w =>
  gd t134 false (fun K => opv ((binE false .neq 3 t137 t140).run Tryz.prog w) R K) w fun t141 w =>
  pick t134 (.bool true) t141 w fun t142 w =>
  cond t142 (R (.returned (.bool false)) w)
  (opv ((Builtin.len_ #[24] 3 #[t44]).run Tryz.prog w) R fun t144 w =>
  opv ((binE true .eql 3 t144 (.int .i64 0)).run Tryz.prog w) R fun t145 w =>
  cond t145 (R (.returned (.bool true)) w)
  (opv ((Instr.buildSlice 24 0 #[]).run Tryz.prog w) R fun t146 w =>
  join (upd (upd (upd (upd (upd (upd (upd (mix [86,87,89,16,18,100,8,88] g1 e1) 19 t107) 20 t108) 21 t21) 22 t115) 142 t142) 145 t145) 23 t146) (fun j3 =>
  opv ((Instr.fieldAt 48 t21 3).run Tryz.prog w) R fun t147 w =>
  opv ((Instr.loadAt 46 t147).run Tryz.prog w) R fun t148 w =>
  opv ((Instr.indexAt 46 t148 (.int .i64 0)).run Tryz.prog w) R fun t149 w =>
  opv ((Instr.fieldAt 54 t149 1).run Tryz.prog w) R fun t150 w =>
  opv ((Instr.loadAt 52 t150).run Tryz.prog w) R fun t151 w =>
  opv ((Builtin.len_ #[52] 3 #[t151]).run Tryz.prog w) R fun t152 w =>
  loop (upd (upd (upd (upd (upd (upd (upd (upd (upd (upd (mix [86,87,89,16,18,100,8,88] g1 e1) 19 t107) 20 t108) 21 t21) 22 t115) 142 t142) 145 t145) 23 t146) 151 t151) 152 t152) 153 (.int .i64 0)) w fun e4 g4 w j4 =>
  opv ((binOp .lss 3 (g4 153) t152).run Tryz.prog w) R fun t154 w =>
  cond t154 (opv ((Instr.indexAt 52 t151 (g4 153)).run Tryz.prog w) R fun t155 w =>
  opv ((Instr.loadAt 37 t155).run Tryz.prog w) R fun t156 w =>
  opv ((Instr.alloc 37 true (.tuple #[])).run Tryz.prog w) R fun t25 w =>
  opu ((Instr.storeAt 37 t25 t156).run Tryz.prog w) R fun _ w =>
  opv ((Instr.fieldAt 37 t25 0).run Tryz.prog w) R fun t158 w =>
  opv ((Instr.loadAt 5 t158).run Tryz.prog w) R fun t159 w =>
  opv ((Instr.buildSlice 24 1 #[(0, t159)]).run Tryz.prog w) R fun t160 w =>
  opv ((Builtin.append_ #[24, 24] 24 #[(g4 23), t160]).run Tryz.prog w) R fun t161 w =>
  opv ((binOp .add 3 (g4 153) (.int .i64 1)).run Tryz.prog w) R fun t162 w =>
  j4 (upd (upd (upd (upd (mix [154,25,23,153] g4 e4) 154 t154) 25 t25) 23 t161) 153 t162) w)
  (j3 (upd (mix [154,25,23,153] g4 e4) 154 t154) w)) fun e3 g3 w =>
  opv ((Instr.fieldAt 48 t21 3).run Tryz.prog w) R fun t163 w =>
  opv ((Instr.loadAt 46 t163).run Tryz.prog w) R fun t164 w =>
  opv ((Instr.indexAt 46 t164 (.int .i64 0)).run Tryz.prog w) R fun t165 w =>
  opv ((Instr.fieldAt 54 t165 0).run Tryz.prog w) R fun t166 w =>
  opv ((Instr.loadAt 3 t166).run Tryz.prog w) R fun t167 w =>
  opv ((binE true .eql 3 t167 (.int .i64 1)).run Tryz.prog w) R fun t168 w =>
  gd t168 true (fun K => K a0 w) w fun t170 w =>
  gd t168 true (fun K => K (g3 23) w) w fun t171 w =>
  gd t168 true (fun K => callF Tryz.prog 21 #[t170, t171] w R K) w fun t172 w =>
  gd t168 true (fun K => K a0 w) w fun t173 w =>
  gd t168 true (fun K => K t44 w) w fun t174 w =>
  gd t168 true (fun K => callF Tryz.prog 21 #[t173, t174] w R K) w fun t175 w =>
  gd t168 true (fun K => opv ((binE false .eql 9 t172 t175).run Tryz.prog w) R K) w fun t176 w =>
  pick t168 t176 (.bool false) w fun t177 w =>
  R (.returned t177) w)))))
theorem F3.eq (R : Ending → World → Prop) (w : World) (a0 a1 a2 a3 : Value) : F3 R w a0 a1 a2 a3 = shF Tryz.prog 3 [0,1,2,3,8,9,10,11,12,13,14,16,18,19,20,21,22,23,25,27,39,67,86,87,88,89,100,142,145,151,152,153,154] [a0, a1, a2, a3] R w := by kernel_rfl
theorem F3.calls {R : Ending → World → Prop} {w : World} {a0 a1 a2 a3 : Value} (h : F3 R w a0 a1 a2 a3) : Calls Tryz.prog 3 #[a0, a1, a2, a3] w R := shF_sound (F3.eq R w a0 a1 a2 a3 ▸ h)

/-- greenscreen/greenscreentop.soundReply -/
def F8 (R : Ending → World → Prop) (w : World) : Prop :=
  opv ((Instr.build 32 #[(0, (.int .i64 1)), (1, (.int .i64 6))]).run Tryz.prog w) R fun t7 w =>
  callF Tryz.prog 33 #[t7] w R fun t8 w =>
  opv ((Instr.extract t8 0).run Tryz.prog w) R fun t9 w =>
  opv ((Instr.extract t8 1).run Tryz.prog w) R fun t10 w =>
  opv ((binE true .eql 33 t9 (.pointer none)).run Tryz.prog w) R fun t12 w =>
  cond t12 (R (.returned (.bool false)) w)
  (opv ((Instr.build 37 #[(2, (.bool true))]).run Tryz.prog w) R fun t14 w =>
  callF Tryz.prog 14 #[t9, (.int .i64 0), t14] w R fun t15 w =>
  callF Tryz.prog 36 #[t9, (.int .i64 1)] w R fun t17 w =>
  callF Tryz.prog 37 #[t9, (.int .u8 193), (.bool false)] w R fun t19 w =>
  callF Tryz.prog 20 #[t9, (.int .u8 125)] w R fun t22 w =>
  callF Tryz.prog 19 #[t22] w R fun t23 w =>
  opv ((Instr.extract t23 0).run Tryz.prog w) R fun t24 w =>
  opv ((Instr.extract t23 1).run Tryz.prog w) R fun t25 w =>
  opv ((Instr.alloc 48 true (.tuple #[])).run Tryz.prog w) R fun t4 w =>
  opu ((Instr.storeAt 48 t4 t24).run Tryz.prog w) R fun _ w =>
  opv ((binE true .eql 25 t19 (.int .i64 0)).run Tryz.prog w) R fun t27 w =>
  gd t27 true (fun K => K t25 w) w fun t29 w =>
  gd t27 true (fun K => opv ((binE true .eql 25 t29 (.int .i64 0)).run Tryz.prog w) R K) w fun t30 w =>
  pick t27 t30 (.bool false) w fun t31 w =>
  gd t31 true (fun K => opv ((Instr.loadAt 48 t4).run Tryz.prog w) R K) w fun t33 w =>
  gd t31 true (fun K => callF Tryz.prog 38 #[(.int .i64 37), t33] w R K) w fun t34 w =>
  gd t31 true (fun K => opv ((binE true .eql 9 t34 (.string ⟨#[69, 78, 84, 69, 82, 32, 64, 50, 32, 49, 61, 65]⟩)).run Tryz.prog w) R K) w fun t35 w =>
  pick t31 t35 (.bool false) w fun t36 w =>
  gd t36 true (fun K => callF Tryz.prog 39 #[(.int .i64 37), (.int .u8 193)] w R K) w fun t38 w =>
  gd t36 true (fun K => opv ((binE true .eql 21 t38 (.int .i32 65)).run Tryz.prog w) R K) w fun t39 w =>
  pick t36 t39 (.bool false) w fun t40 w =>
  R (.returned t40) w)
theorem F8.eq (R : Ending → World → Prop) (w : World) : F8 R w  = shF Tryz.prog 8 [0,1,3,4,5,12] [] R w := by kernel_rfl
theorem F8.calls {R : Ending → World → Prop} {w : World} (h : F8 R w ) : Calls Tryz.prog 8 #[] w R := shF_sound (F8.eq R w  ▸ h)

end Go.Proofs.YtjdoakbadehicaaGreatDoor
