/-
  Shallow forms of functions of the loaded program, each tied to it. No condition.
-/
import Derived.Test.YtojcbhkhfcddnaaProg
import Derived.Test.YtojcbhkhfcddnaaShSound
import Derived.KernelRfl
namespace Go.Proofs.Ytojcbhkhfcddnaa
open Go Go.Sh
set_option linter.unusedVariables false
set_option maxRecDepth 100000
/-- greenscreen/greenscreenlaw15.FieldLooks -/
def F3 (R : Ending → World → Prop) (w : World) (a0 a1 a2 a3 a4 : Value) : Prop :=
  opv ((Instr.box 23 a0).run Try.prog w) R fun t5 w =>
  callF Try.prog 8 #[] w R fun t28 w =>
  opv ((Op.unary .not t28).run Try.prog w) R fun t29 w =>
  cond t29 (R (.returned (.bool false)) w)
  (opv ((Instr.loadAt 23 t5).run Try.prog w) R fun t31 w =>
  callF Try.prog 9 #[t31, a1] w R fun t33 w =>
  opv ((Instr.extract t33 0).run Try.prog w) R fun t34 w =>
  opv ((Instr.extract t33 1).run Try.prog w) R fun t35 w =>
  opv ((Instr.extract t33 2).run Try.prog w) R fun t36 w =>
  opv ((Instr.alloc 28 true (.tuple #[])).run Try.prog w) R fun t12 w =>
  opu ((Instr.storeAt 28 t12 t35).run Try.prog w) R fun _ w =>
  opv ((Op.unary .not t36).run Try.prog w) R fun t38 w =>
  cond t38 (R (.returned (.bool true)) w)
  (opv ((binOp .and 3 a4 (.int .i64 127)).run Try.prog w) R fun t40 w =>
  opv ((binOp .add 3 (.int .i64 1) t40).run Try.prog w) R fun t41 w =>
  opv ((Instr.loadAt 28 t12).run Try.prog w) R fun t42 w =>
  callF Try.prog 10 #[t42] w R fun t43 w =>
  callF Try.prog 11 #[t34, t41] w R fun t46 w =>
  drawn w fun T w =>
  qop T w (fun w K => callF Try.prog 12 #[t34] w noR K) fun t48 =>
  qop T w (fun w K => opv ((Builtin.len_ #[31] 3 #[t43]).run Try.prog w) noR K) fun t50 =>
  qop T w (fun w K => opv ((binOp .gtr 3 t50 (.int .i64 0)).run Try.prog w) noR K) fun t51 =>
  qop T w (fun w K => opv ((binE false .neq 4 t48 t51).run Try.prog w) noR K) fun t52 =>
  qop T w (fun w K => gd t52 false (fun K => K t46 w) w K) fun t54 =>
  qop T w (fun w K => gd t52 false (fun K => opv ((Builtin.len_ #[33] 3 #[t54]).run Try.prog w) noR K) w K) fun t55 =>
  qop T w (fun w K => gd t52 false (fun K => K t41 w) w K) fun t56 =>
  qop T w (fun w K => gd t52 false (fun K => K t43 w) w K) fun t57 =>
  qop T w (fun w K => gd t52 false (fun K => opv ((Builtin.len_ #[31] 3 #[t57]).run Try.prog w) noR K) w K) fun t58 =>
  qop T w (fun w K => gd t52 false (fun K => opv ((Builtin.min_ #[3, 3] 3 #[t56, t58]).run Try.prog w) noR K) w K) fun t59 =>
  qop T w (fun w K => gd t52 false (fun K => opv ((binE false .neq 3 t55 t59).run Try.prog w) noR K) w K) fun t60 =>
  qop T w (fun w K => pick t52 (.bool true) t60 w K) fun t61 =>
  qop T w (fun w K => gd t61 false (fun K => K t34 w) w K) fun t63 =>
  qop T w (fun w K => gd t61 false (fun K => callF Try.prog 13 #[t63] w noR K) w K) fun t64 =>
  qop T w (fun w K => gd t61 false (fun K => opv ((Instr.loadAt 28 t12).run Try.prog w) noR K) w K) fun t65 =>
  qop T w (fun w K => gd t61 false (fun K => callF Try.prog 14 #[t65] w noR K) w K) fun t66 =>
  qop T w (fun w K => gd t61 false (fun K => opv ((binE false .neq 3 t64 t66).run Try.prog w) noR K) w K) fun t67 =>
  qop T w (fun w K => pick t61 (.bool true) t67 w K) fun t68 =>
  ext w fun w =>
  cond t68 (R (.returned (.bool false)) w)
  (join (upd (upd (upd (upd (upd (upd (upd (upd (upd (upd (upd (ini [a0, a1, a2, a3, a4]) 5 t5) 10 (.bool false)) 29 t29) 12 t12) 11 t34) 13 t36) 38 t38) 4 t41) 14 t43) 15 t46) 68 t68) (fun j1 =>
  opv ((Builtin.len_ #[33] 3 #[t46]).run Try.prog w) R fun t70 w =>
  loop (upd (upd (upd (upd (upd (upd (upd (upd (upd (upd (upd (upd (upd (upd (ini [a0, a1, a2, a3, a4]) 5 t5) 10 (.bool false)) 29 t29) 12 t12) 11 t34) 13 t36) 38 t38) 4 t41) 14 t43) 15 t46) 68 t68) 69 t46) 70 t70) 71 (.int .i64 0)) w fun e2 g2 w j2 =>
  opv ((binOp .lss 3 (g2 71) t70).run Try.prog w) R fun t72 w =>
  cond t72 (join (upd (mix [72,17,16,18,19,84,85,87,22,20,86,135,10,71] g2 e2) 72 t72) (fun j3 =>
  opv ((Instr.indexAt 33 t46 (g2 71)).run Try.prog w) R fun t74 w =>
  opv ((Instr.loadAt 39 t74).run Try.prog w) R fun t75 w =>
  opv ((Instr.alloc 39 true (.tuple #[])).run Try.prog w) R fun t17 w =>
  opu ((Instr.storeAt 39 t17 t75).run Try.prog w) R fun _ w =>
  opv ((Instr.indexAt 31 t43 (g2 71)).run Try.prog w) R fun t78 w =>
  opv ((Instr.loadAt 40 t78).run Try.prog w) R fun t79 w =>
  opv ((Instr.alloc 40 true (.tuple #[])).run Try.prog w) R fun t18 w =>
  opu ((Instr.storeAt 40 t18 t79).run Try.prog w) R fun _ w =>
  opv ((Instr.loadAt 28 t12).run Try.prog w) R fun t80 w =>
  opv ((Instr.loadAt 40 t18).run Try.prog w) R fun t81 w =>
  callF Try.prog 15 #[t80, t81] w R fun t82 w =>
  opv ((Instr.buildSlice 43 0 #[]).run Try.prog w) R fun t83 w =>
  join (upd (upd (upd (upd (upd (upd (mix [72,17,16,18,19,84,85,87,22,20,86,135,10,71] g2 e2) 72 t72) 17 t17) 16 (g2 71)) 18 t18) 19 t82) 20 t83) (fun j4 =>
  opv ((Builtin.len_ #[41] 3 #[t82]).run Try.prog w) R fun t85 w =>
  loop (upd (upd (upd (upd (upd (upd (upd (upd (upd (mix [72,17,16,18,19,84,85,87,22,20,86,135,10,71] g2 e2) 72 t72) 17 t17) 16 (g2 71)) 18 t18) 19 t82) 20 t83) 84 t82) 85 t85) 86 (.int .i64 0)) w fun e5 g5 w j5 =>
  opv ((binOp .lss 3 (g5 86) t85).run Try.prog w) R fun t87 w =>
  cond t87 (opv ((Instr.indexAt 41 t82 (g5 86)).run Try.prog w) R fun t88 w =>
  opv ((Instr.loadAt 3 t88).run Try.prog w) R fun t89 w =>
  opv ((Instr.fieldAt 28 t12 1).run Try.prog w) R fun t91 w =>
  opv ((Instr.loadAt 24 t91).run Try.prog w) R fun t92 w =>
  opv ((Instr.indexAt 24 t92 t89).run Try.prog w) R fun t94 w =>
  opv ((Instr.fieldAt 45 t94 0).run Try.prog w) R fun t95 w =>
  opv ((Instr.loadAt 5 t95).run Try.prog w) R fun t96 w =>
  opv ((Instr.buildSlice 43 1 #[(0, t96)]).run Try.prog w) R fun t97 w =>
  opv ((Builtin.append_ #[43, 43] 43 #[(g5 20), t97]).run Try.prog w) R fun t98 w =>
  opv ((binOp .add 3 (g5 86) (.int .i64 1)).run Try.prog w) R fun t99 w =>
  j5 (upd (upd (upd (upd (mix [87,22,20,86] g5 e5) 87 t87) 22 t89) 20 t98) 86 t99) w)
  (j4 (upd (mix [87,22,20,86] g5 e5) 87 t87) w)) fun e4 g4 w =>
  drawn w fun T w =>
  qop T w (fun w K => opv ((Instr.loadAt 39 t17).run Try.prog w) noR K) fun t100 =>
  qop T w (fun w K => opv ((Instr.loadAt 40 t18).run Try.prog w) noR K) fun t101 =>
  qop T w (fun w K => opv ((binE false .neq 40 t100 t101).run Try.prog w) noR K) fun t102 =>
  qop T w (fun w K => gd t102 false (fun K => K t34 w) w K) fun t104 =>
  qop T w (fun w K => gd t102 false (fun K => opv ((Instr.loadAt 39 t17).run Try.prog w) noR K) w K) fun t105 =>
  qop T w (fun w K => gd t102 false (fun K => K t41 w) w K) fun t106 =>
  qop T w (fun w K => gd t102 false (fun K => K t82 w) w K) fun t108 =>
  qop T w (fun w K => gd t102 false (fun K => K t41 w) w K) fun t109 =>
  qop T w (fun w K => gd t102 false (fun K => K t82 w) w K) fun t110 =>
  qop T w (fun w K => gd t102 false (fun K => opv ((Builtin.len_ #[41] 3 #[t110]).run Try.prog w) noR K) w K) fun t111 =>
  qop T w (fun w K => gd t102 false (fun K => opv ((Builtin.min_ #[3, 3] 3 #[t109, t111]).run Try.prog w) noR K) w K) fun t112 =>
  qop T w (fun w K => gd t102 false (fun K => opv ((Instr.sliceAt 41 t108 none (some t112) none).run Try.prog w) noR K) w K) fun t113 =>
  ext w fun w =>
  lop T w (fun w K => gd t102 false (fun K => callF Try.prog 17 #[t104, t105, t106] w R K) w K) fun t107 w =>
  qop T w (fun w K => gd t102 false (fun K => callF Try.prog 16 #[t107, t113] w noR K) w K) fun t114 =>
  qop T w (fun w K => gd t102 false (fun K => opv ((Op.unary .not t114).run Try.prog w) noR K) w K) fun t115 =>
  qop T w (fun w K => pick t102 (.bool true) t115 w K) fun t116 =>
  qop T w (fun w K => gd t116 false (fun K => K t34 w) w K) fun t118 =>
  qop T w (fun w K => gd t116 false (fun K => opv ((Instr.loadAt 39 t17).run Try.prog w) noR K) w K) fun t119 =>
  qop T w (fun w K => gd t116 false (fun K => K (g4 20) w) w K) fun t121 =>
  ext w fun w =>
  lop T w (fun w K => gd t116 false (fun K => callF Try.prog 19 #[t118, t119] w R K) w K) fun t120 w =>
  qop T w (fun w K => gd t116 false (fun K => callF Try.prog 18 #[t120, t121] w noR K) w K) fun t122 =>
  qop T w (fun w K => gd t116 false (fun K => opv ((Op.unary .not t122).run Try.prog w) noR K) w K) fun t123 =>
  qop T w (fun w K => pick t116 (.bool true) t123 w K) fun t124 =>
  qop T w (fun w K => gd t124 false (fun K => K t34 w) w K) fun t126 =>
  qop T w (fun w K => gd t124 false (fun K => K a2 w) w K) fun t127 =>
  qop T w (fun w K => gd t124 false (fun K => opv ((Instr.loadAt 39 t17).run Try.prog w) noR K) w K) fun t128 =>
  qop T w (fun w K => gd t124 false (fun K => callF Try.prog 20 #[t126, t127, t128] w noR K) w K) fun t129 =>
  qop T w (fun w K => gd t124 false (fun K => opv ((Instr.loadAt 28 t12).run Try.prog w) noR K) w K) fun t130 =>
  qop T w (fun w K => gd t124 false (fun K => K a2 w) w K) fun t131 =>
  qop T w (fun w K => gd t124 false (fun K => opv ((Instr.loadAt 40 t18).run Try.prog w) noR K) w K) fun t132 =>
  qop T w (fun w K => gd t124 false (fun K => callF Try.prog 21 #[t130, t131, t132] w noR K) w K) fun t133 =>
  qop T w (fun w K => gd t124 false (fun K => opv ((binE false .neq 9 t129 t133).run Try.prog w) noR K) w K) fun t134 =>
  qop T w (fun w K => pick t124 (.bool true) t134 w K) fun t135 =>
  ext w fun w =>
  cond t135 (R (.returned (.bool false)) w)
  (j3 (upd (mix [84,85,87,22,20,86] g4 e4) 135 t135) w)) fun e3 g3 w =>
  opv ((binOp .add 3 (g2 71) (.int .i64 1)).run Try.prog w) R fun t136 w =>
  j2 (upd (mix [17,16,18,19,84,85,87,22,20,86,135,10] g3 e3) 71 t136) w)
  (j1 (upd (mix [72,17,16,18,19,84,85,87,22,20,86,135,10,71] g2 e2) 72 t72) w)) fun e1 g1 w =>
  callF Try.prog 22 #[t34, a3] w R fun t140 w =>
  opv ((Instr.extract t140 0).run Try.prog w) R fun t141 w =>
  opv ((Instr.extract t140 1).run Try.prog w) R fun t142 w =>
  opv ((Instr.alloc 39 true (.tuple #[])).run Try.prog w) R fun t23 w =>
  opu ((Instr.storeAt 39 t23 t141).run Try.prog w) R fun _ w =>
  opv ((Instr.loadAt 28 t12).run Try.prog w) R fun t144 w =>
  callF Try.prog 23 #[t144, a3] w R fun t146 w =>
  opv ((Instr.extract t146 0).run Try.prog w) R fun t147 w =>
  opv ((Instr.extract t146 1).run Try.prog w) R fun t148 w =>
  opv ((Instr.alloc 40 true (.tuple #[])).run Try.prog w) R fun t25 w =>
  opu ((Instr.storeAt 40 t25 t147).run Try.prog w) R fun _ w =>
  join (upd (upd (upd (upd (upd (mix [69,70,72,17,16,18,19,84,85,87,22,20,86,135,10,71] g1 e1) 23 t23) 24 t142) 25 t25) 26 t148) 27 (.int .i64 (-1))) (fun j6 =>
  cond t148 (opv ((Instr.fieldAt 40 t25 0).run Try.prog w) R fun t150 w =>
  opv ((Instr.loadAt 3 t150).run Try.prog w) R fun t151 w =>
  j6 (upd (upd (upd (upd (upd (upd (upd (mix [69,70,72,17,16,18,19,84,85,87,22,20,86,135,10,71] g1 e1) 23 t23) 24 t142) 25 t25) 26 t148) 27 (.int .i64 (-1))) 149 t148) 27 t151) w)
  (j6 (upd (upd (upd (upd (upd (upd (mix [69,70,72,17,16,18,19,84,85,87,22,20,86,135,10,71] g1 e1) 23 t23) 24 t142) 25 t25) 26 t148) 27 (.int .i64 (-1))) 149 t148) w)) fun e6 g6 w =>
  drawn w fun T w =>
  qop T w (fun w K => opv ((binE false .eql 4 t142 t148).run Try.prog w) noR K) fun t154 =>
  qop T w (fun w K => gd t154 true (fun K => opv ((Instr.loadAt 39 t23).run Try.prog w) noR K) w K) fun t156 =>
  qop T w (fun w K => gd t154 true (fun K => opv ((Instr.loadAt 40 t25).run Try.prog w) noR K) w K) fun t157 =>
  qop T w (fun w K => gd t154 true (fun K => opv ((binE false .eql 40 t156 t157).run Try.prog w) noR K) w K) fun t158 =>
  qop T w (fun w K => pick t154 t158 (.bool false) w K) fun t159 =>
  qop T w (fun w K => gd t159 true (fun K => K t34 w) w K) fun t161 =>
  qop T w (fun w K => gd t159 true (fun K => K a3 w) w K) fun t162 =>
  qop T w (fun w K => gd t159 true (fun K => callF Try.prog 24 #[t161, t162] w noR K) w K) fun t163 =>
  qop T w (fun w K => gd t159 true (fun K => K (g6 27) w) w K) fun t164 =>
  qop T w (fun w K => gd t159 true (fun K => opv ((binE false .eql 3 t163 t164).run Try.prog w) noR K) w K) fun t165 =>
  qop T w (fun w K => pick t159 t165 (.bool false) w K) fun t166 =>
  qop T w (fun w K => gd t166 true (fun K => K t34 w) w K) fun t168 =>
  qop T w (fun w K => gd t166 true (fun K => K a3 w) w K) fun t169 =>
  qop T w (fun w K => gd t166 true (fun K => callF Try.prog 25 #[t168, t169] w noR K) w K) fun t170 =>
  qop T w (fun w K => gd t166 true (fun K => opv ((Instr.loadAt 28 t12).run Try.prog w) noR K) w K) fun t171 =>
  qop T w (fun w K => gd t166 true (fun K => K a3 w) w K) fun t172 =>
  qop T w (fun w K => gd t166 true (fun K => callF Try.prog 26 #[t171, t172] w noR K) w K) fun t173 =>
  qop T w (fun w K => gd t166 true (fun K => opv ((binE false .eql 3 t170 t173).run Try.prog w) noR K) w K) fun t174 =>
  qop T w (fun w K => pick t166 t174 (.bool false) w K) fun t175 =>
  qop T w (fun w K => gd t175 true (fun K => K t34 w) w K) fun t177 =>
  qop T w (fun w K => gd t175 true (fun K => K a3 w) w K) fun t178 =>
  qop T w (fun w K => gd t175 true (fun K => callF Try.prog 27 #[t177, t178] w noR K) w K) fun t179 =>
  qop T w (fun w K => gd t175 true (fun K => opv ((Instr.loadAt 28 t12).run Try.prog w) noR K) w K) fun t180 =>
  qop T w (fun w K => gd t175 true (fun K => K a3 w) w K) fun t181 =>
  qop T w (fun w K => gd t175 true (fun K => callF Try.prog 28 #[t180, t181] w noR K) w K) fun t182 =>
  qop T w (fun w K => gd t175 true (fun K => opv ((binE false .eql 4 t179 t182).run Try.prog w) noR K) w K) fun t183 =>
  qop T w (fun w K => pick t175 t183 (.bool false) w K) fun t184 =>
  ext w fun w =>
  R (.returned t184) w)))
theorem F3.eq (R : Ending → World → Prop) (w : World) (a0 a1 a2 a3 a4 : Value) : F3 R w a0 a1 a2 a3 a4 = shF Try.prog 3 [0,1,2,3,4,5,10,11,12,13,14,15,16,17,18,19,20,22,23,24,25,26,27,29,38,68,69,70,71,72,84,85,86,87,135,149] [a0, a1, a2, a3, a4] R w := by kernel_rfl
theorem F3.calls {R : Ending → World → Prop} {w : World} {a0 a1 a2 a3 a4 : Value} (h : F3 R w a0 a1 a2 a3 a4) : Calls Try.prog 3 #[a0, a1, a2, a3, a4] w R := shF_sound (F3.eq R w a0 a1 a2 a3 a4 ▸ h)

/-- greenscreen/greenscreenlaw15.FieldParts -/
def F4 (R : Ending → World → Prop) (w : World) (a0 a1 : Value) : Prop :=
  opv ((Instr.box 23 a0).run Try.prog w) R fun t2 w =>
  callF Try.prog 8 #[] w R fun t20 w =>
  opv ((Op.unary .not t20).run Try.prog w) R fun t21 w =>
  cond t21 (R (.returned (.bool false)) w)
  (opv ((Instr.loadAt 23 t2).run Try.prog w) R fun t23 w =>
  callF Try.prog 9 #[t23, a1] w R fun t25 w =>
  opv ((Instr.extract t25 0).run Try.prog w) R fun t26 w =>
  opv ((Instr.extract t25 1).run Try.prog w) R fun t27 w =>
  opv ((Instr.extract t25 2).run Try.prog w) R fun t28 w =>
  opv ((Instr.alloc 28 true (.tuple #[])).run Try.prog w) R fun t6 w =>
  opu ((Instr.storeAt 28 t6 t27).run Try.prog w) R fun _ w =>
  opv ((Op.unary .not t28).run Try.prog w) R fun t30 w =>
  cond t30 (R (.returned (.bool true)) w)
  (opv ((Instr.makeMap 61 none).run Try.prog w) R fun t31 w =>
  join (upd (upd (upd (upd (upd (upd (upd (upd (ini [a0, a1]) 2 t2) 4 (.bool false)) 21 t21) 5 t26) 7 t28) 30 t30) 8 t31) 9 (.int .i64 0)) (fun j1 =>
  callF Try.prog 11 #[t26, (.int .i64 1000)] w R fun t33 w =>
  opv ((Builtin.len_ #[33] 3 #[t33]).run Try.prog w) R fun t34 w =>
  loop (upd (upd (upd (upd (upd (upd (upd (upd (upd (upd (upd (ini [a0, a1]) 2 t2) 4 (.bool false)) 21 t21) 5 t26) 7 t28) 30 t30) 8 t31) 9 (.int .i64 0)) 33 t33) 34 t34) 35 (.int .i64 0)) w fun e2 g2 w j2 =>
  opv ((binOp .lss 3 (g2 35) t34).run Try.prog w) R fun t36 w =>
  cond t36 (join (upd (mix [36,11,47,48,50,13,9,49,35] g2 e2) 36 t36) (fun j3 =>
  opv ((Instr.indexAt 33 t33 (g2 35)).run Try.prog w) R fun t37 w =>
  opv ((Instr.loadAt 39 t37).run Try.prog w) R fun t38 w =>
  opv ((Instr.alloc 39 true (.tuple #[])).run Try.prog w) R fun t11 w =>
  opu ((Instr.storeAt 39 t11 t38).run Try.prog w) R fun _ w =>
  opv ((Instr.fieldAt 39 t11 0).run Try.prog w) R fun t40 w =>
  opv ((Instr.loadAt 3 t40).run Try.prog w) R fun t41 w =>
  opv ((Instr.loadAt 39 t11).run Try.prog w) R fun t42 w =>
  opu ((Instr.mapUpdate 61 t31 t41 t42).run Try.prog w) R fun _ w =>
  opv ((binOp .add 3 (g2 9) (.int .i64 1)).run Try.prog w) R fun t44 w =>
  opv ((Instr.loadAt 39 t11).run Try.prog w) R fun t46 w =>
  callF Try.prog 17 #[t26, t46, (.int .i64 1000)] w R fun t47 w =>
  opv ((Builtin.len_ #[41] 3 #[t47]).run Try.prog w) R fun t48 w =>
  loop (upd (upd (upd (upd (upd (upd (mix [36,11,47,48,50,13,9,49,35] g2 e2) 36 t36) 11 t11) 9 t44) 47 t47) 48 t48) 49 (.int .i64 0)) w fun e4 g4 w j4 =>
  opv ((binOp .lss 3 (g4 49) t48).run Try.prog w) R fun t50 w =>
  cond t50 (opv ((Instr.indexAt 41 t47 (g4 49)).run Try.prog w) R fun t51 w =>
  opv ((Instr.loadAt 3 t51).run Try.prog w) R fun t52 w =>
  opv ((Instr.loadAt 39 t11).run Try.prog w) R fun t55 w =>
  opu ((Instr.mapUpdate 61 t31 t52 t55).run Try.prog w) R fun _ w =>
  opv ((binOp .add 3 (g4 9) (.int .i64 1)).run Try.prog w) R fun t57 w =>
  opv ((binOp .add 3 (g4 49) (.int .i64 1)).run Try.prog w) R fun t58 w =>
  j4 (upd (upd (upd (upd (mix [50,13,9,49] g4 e4) 50 t50) 13 t52) 9 t57) 49 t58) w)
  (j3 (upd (mix [50,13,9,49] g4 e4) 50 t50) w)) fun e3 g3 w =>
  opv ((binOp .add 3 (g2 35) (.int .i64 1)).run Try.prog w) R fun t59 w =>
  j2 (upd (mix [11,47,48,50,13,9,49] g3 e3) 35 t59) w)
  (j1 (upd (mix [36,11,47,48,50,13,9,49,35] g2 e2) 36 t36) w)) fun e1 g1 w =>
  callF Try.prog 12 #[t26] w R fun t61 w =>
  opv ((Op.unary .not t61).run Try.prog w) R fun t62 w =>
  cond t62 (opv ((binE true .eql 3 (g1 9) (.int .i64 0)).run Try.prog w) R fun t64 w =>
  gd t64 true (fun K => K t26 w) w fun t66 w =>
  gd t64 true (fun K => callF Try.prog 13 #[t66] w R K) w fun t67 w =>
  gd t64 true (fun K => opv ((binE true .eql 3 t67 (.int .i64 0)).run Try.prog w) R K) w fun t68 w =>
  pick t64 t68 (.bool false) w fun t69 w =>
  R (.returned t69) w)
  (join (upd (mix [33,34,36,11,47,48,50,13,9,49,35] g1 e1) 62 t62) (fun j5 =>
  callF Try.prog 29 #[t26] w R fun t71 w =>
  loop (upd (upd (upd (mix [33,34,36,11,47,48,50,13,9,49,35] g1 e1) 62 t62) 71 t71) 72 (.int .i64 0)) w fun e6 g6 w j6 =>
  opv ((binOp .lss 3 (g6 72) t71).run Try.prog w) R fun t73 w =>
  cond t73 (callF Try.prog 22 #[t26, (g6 72)] w R fun t78 w =>
  opv ((Instr.extract t78 0).run Try.prog w) R fun t79 w =>
  opv ((Instr.extract t78 1).run Try.prog w) R fun t80 w =>
  opv ((Instr.alloc 39 true (.tuple #[])).run Try.prog w) R fun t15 w =>
  opu ((Instr.storeAt 39 t15 t79).run Try.prog w) R fun _ w =>
  opv ((Instr.lookup 61 t31 (g6 72) true).run Try.prog w) R fun t84 w =>
  opv ((Instr.extract t84 0).run Try.prog w) R fun t85 w =>
  opv ((Instr.extract t84 1).run Try.prog w) R fun t86 w =>
  opv ((Instr.alloc 39 true (.tuple #[])).run Try.prog w) R fun t17 w =>
  opu ((Instr.storeAt 39 t17 t85).run Try.prog w) R fun _ w =>
  drawn w fun T w =>
  qop T w (fun w K => opv ((Op.unary .not t80).run Try.prog w) noR K) fun t88 =>
  qop T w (fun w K => gd t88 false (fun K => K t86 w) w K) fun t90 =>
  qop T w (fun w K => gd t88 false (fun K => opv ((Op.unary .not t90).run Try.prog w) noR K) w K) fun t91 =>
  qop T w (fun w K => pick t88 (.bool true) t91 w K) fun t92 =>
  qop T w (fun w K => gd t92 false (fun K => opv ((Instr.loadAt 39 t15).run Try.prog w) noR K) w K) fun t94 =>
  qop T w (fun w K => gd t92 false (fun K => opv ((Instr.loadAt 39 t17).run Try.prog w) noR K) w K) fun t95 =>
  qop T w (fun w K => gd t92 false (fun K => opv ((binE false .neq 39 t94 t95).run Try.prog w) noR K) w K) fun t96 =>
  qop T w (fun w K => pick t92 (.bool true) t96 w K) fun t97 =>
  qop T w (fun w K => gd t97 false (fun K => K t26 w) w K) fun t99 =>
  qop T w (fun w K => gd t97 false (fun K => K (g6 72) w) w K) fun t100 =>
  qop T w (fun w K => gd t97 false (fun K => callF Try.prog 24 #[t99, t100] w noR K) w K) fun t101 =>
  qop T w (fun w K => gd t97 false (fun K => opv ((Instr.fieldAt 39 t15 0).run Try.prog w) noR K) w K) fun t102 =>
  qop T w (fun w K => gd t97 false (fun K => opv ((Instr.loadAt 3 t102).run Try.prog w) noR K) w K) fun t103 =>
  qop T w (fun w K => gd t97 false (fun K => opv ((binE false .neq 3 t101 t103).run Try.prog w) noR K) w K) fun t104 =>
  qop T w (fun w K => pick t97 (.bool true) t104 w K) fun t105 =>
  ext w fun w =>
  cond t105 (R (.returned (.bool false)) w)
  (opv ((binOp .add 3 (g6 72) (.int .i64 1)).run Try.prog w) R fun t106 w =>
  j6 (upd (upd (upd (upd (upd (upd (upd (upd (mix [73,14,15,16,17,18,105,4,72] g6 e6) 73 t73) 14 (g6 72)) 15 t15) 16 t80) 17 t17) 18 t86) 105 t105) 72 t106) w))
  (j5 (upd (mix [73,14,15,16,17,18,105,4,72] g6 e6) 73 t73) w)) fun e5 g5 w =>
  callF Try.prog 13 #[t26] w R fun t108 w =>
  callF Try.prog 29 #[t26] w R fun t111 w =>
  opv ((binE false .eql 3 (g1 9) t111).run Try.prog w) R fun t112 w =>
  gd t112 true (fun K => K t31 w) w fun t114 w =>
  gd t112 true (fun K => opv ((Builtin.len_ #[61] 3 #[t114]).run Try.prog w) R K) w fun t115 w =>
  gd t112 true (fun K => K (g1 9) w) w fun t116 w =>
  gd t112 true (fun K => opv ((binE false .eql 3 t115 t116).run Try.prog w) R K) w fun t117 w =>
  pick t112 t117 (.bool false) w fun t118 w =>
  gd t118 true (fun K => K t108 w) w fun t120 w =>
  gd t118 true (fun K => opv ((binE true .eql 3 t120 (.int .i64 0)).run Try.prog w) R K) w fun t121 w =>
  gd t118 true (fun K => K t121 w) w fun t122 w =>
  gd t122 false (fun K => K t26 w) w fun t123 w =>
  gd t122 false (fun K => K t108 w) w fun t124 w =>
  gd t122 false (fun K => callF Try.prog 27 #[t123, t124] w R K) w fun t125 w =>
  gd t118 true (fun K => pick t122 (.bool true) t125 w K) w fun t126 w =>
  pick t118 t126 (.bool false) w fun t127 w =>
  R (.returned t127) w)))
theorem F4.eq (R : Ending → World → Prop) (w : World) (a0 a1 : Value) : F4 R w a0 a1 = shF Try.prog 4 [0,1,2,4,5,7,8,9,11,13,14,15,16,17,18,19,21,30,33,34,35,36,47,48,49,50,62,71,72,73,105] [a0, a1] R w := by kernel_rfl
theorem F4.calls {R : Ending → World → Prop} {w : World} {a0 a1 : Value} (h : F4 R w a0 a1) : Calls Try.prog 4 #[a0, a1] w R := shF_sound (F4.eq R w a0 a1 ▸ h)

/-- greenscreen/greenscreenlaw15.FieldWalks -/
def F5 (R : Ending → World → Prop) (w : World) (a0 a1 a2 : Value) : Prop :=
  opv ((Instr.box 23 a0).run Try.prog w) R fun t3 w =>
  callF Try.prog 8 #[] w R fun t16 w =>
  opv ((Op.unary .not t16).run Try.prog w) R fun t17 w =>
  cond t17 (R (.returned (.bool false)) w)
  (opv ((Instr.loadAt 23 t3).run Try.prog w) R fun t19 w =>
  callF Try.prog 9 #[t19, a1] w R fun t21 w =>
  opv ((Instr.extract t21 0).run Try.prog w) R fun t22 w =>
  opv ((Instr.extract t21 1).run Try.prog w) R fun t23 w =>
  opv ((Instr.extract t21 2).run Try.prog w) R fun t24 w =>
  opv ((Instr.alloc 28 true (.tuple #[])).run Try.prog w) R fun t8 w =>
  opu ((Instr.storeAt 28 t8 t23).run Try.prog w) R fun _ w =>
  opv ((Op.unary .not t24).run Try.prog w) R fun t26 w =>
  cond t26 (R (.returned (.bool true)) w)
  (callF Try.prog 11 #[t22, (.int .i64 1000)] w R fun t28 w =>
  join (upd (upd (upd (upd (upd (upd (upd (ini [a0, a1, a2]) 3 t3) 6 (.bool false)) 17 t17) 7 t22) 9 t24) 26 t26) 10 t28) (fun j1 =>
  opv ((Builtin.len_ #[33] 3 #[t28]).run Try.prog w) R fun t30 w =>
  loop (upd (upd (upd (upd (upd (upd (upd (upd (upd (upd (ini [a0, a1, a2]) 3 t3) 6 (.bool false)) 17 t17) 7 t22) 9 t24) 26 t26) 10 t28) 29 t28) 30 t30) 31 (.int .i64 0)) w fun e2 g2 w j2 =>
  opv ((binOp .lss 3 (g2 31) t30).run Try.prog w) R fun t32 w =>
  cond t32 (opv ((Instr.indexAt 33 t28 (g2 31)).run Try.prog w) R fun t34 w =>
  opv ((Instr.loadAt 39 t34).run Try.prog w) R fun t35 w =>
  opv ((Instr.alloc 39 true (.tuple #[])).run Try.prog w) R fun t12 w =>
  opu ((Instr.storeAt 39 t12 t35).run Try.prog w) R fun _ w =>
  opv ((binOp .add 3 (g2 31) (.int .i64 1)).run Try.prog w) R fun t38 w =>
  opv ((Builtin.len_ #[33] 3 #[t28]).run Try.prog w) R fun t40 w =>
  opv ((binOp .rem 3 t38 t40).run Try.prog w) R fun t41 w =>
  opv ((Instr.indexAt 33 t28 t41).run Try.prog w) R fun t42 w =>
  opv ((Instr.loadAt 39 t42).run Try.prog w) R fun t43 w =>
  opv ((Instr.alloc 39 true (.tuple #[])).run Try.prog w) R fun t13 w =>
  opu ((Instr.storeAt 39 t13 t43).run Try.prog w) R fun _ w =>
  drawn w fun T w =>
  qop T w (fun w K => opv ((Instr.fieldAt 39 t12 0).run Try.prog w) noR K) fun t45 =>
  qop T w (fun w K => opv ((Instr.loadAt 3 t45).run Try.prog w) noR K) fun t46 =>
  qop T w (fun w K => callF Try.prog 25 #[t22, t46] w noR K) fun t47 =>
  qop T w (fun w K => opv ((Instr.fieldAt 39 t13 0).run Try.prog w) noR K) fun t48 =>
  qop T w (fun w K => opv ((Instr.loadAt 3 t48).run Try.prog w) noR K) fun t49 =>
  qop T w (fun w K => opv ((binE false .neq 3 t47 t49).run Try.prog w) noR K) fun t50 =>
  qop T w (fun w K => gd t50 false (fun K => K t22 w) w K) fun t52 =>
  qop T w (fun w K => gd t50 false (fun K => opv ((Instr.fieldAt 39 t12 0).run Try.prog w) noR K) w K) fun t53 =>
  qop T w (fun w K => gd t50 false (fun K => opv ((Instr.loadAt 3 t53).run Try.prog w) noR K) w K) fun t54 =>
  qop T w (fun w K => gd t50 false (fun K => callF Try.prog 24 #[t52, t54] w noR K) w K) fun t55 =>
  qop T w (fun w K => gd t50 false (fun K => opv ((Instr.fieldAt 39 t12 0).run Try.prog w) noR K) w K) fun t56 =>
  qop T w (fun w K => gd t50 false (fun K => opv ((Instr.loadAt 3 t56).run Try.prog w) noR K) w K) fun t57 =>
  qop T w (fun w K => gd t50 false (fun K => opv ((binE false .neq 3 t55 t57).run Try.prog w) noR K) w K) fun t58 =>
  qop T w (fun w K => pick t50 (.bool true) t58 w K) fun t59 =>
  qop T w (fun w K => gd t59 false (fun K => K t22 w) w K) fun t61 =>
  qop T w (fun w K => gd t59 false (fun K => opv ((Instr.fieldAt 39 t12 0).run Try.prog w) noR K) w K) fun t62 =>
  qop T w (fun w K => gd t59 false (fun K => opv ((Instr.loadAt 3 t62).run Try.prog w) noR K) w K) fun t63 =>
  qop T w (fun w K => gd t59 false (fun K => callF Try.prog 27 #[t61, t63] w noR K) w K) fun t64 =>
  qop T w (fun w K => pick t59 (.bool true) t64 w K) fun t65 =>
  qop T w (fun w K => gd t65 false (fun K => K t22 w) w K) fun t67 =>
  qop T w (fun w K => gd t65 false (fun K => opv ((Instr.fieldAt 39 t12 0).run Try.prog w) noR K) w K) fun t68 =>
  qop T w (fun w K => gd t65 false (fun K => opv ((Instr.loadAt 3 t68).run Try.prog w) noR K) w K) fun t69 =>
  qop T w (fun w K => gd t65 false (fun K => callF Try.prog 30 #[t67, t69] w noR K) w K) fun t70 =>
  qop T w (fun w K => gd t65 false (fun K => opv ((Instr.field 45 t70 2).run Try.prog w) noR K) w K) fun t71 =>
  qop T w (fun w K => gd t65 false (fun K => opv ((Op.unary .not t71).run Try.prog w) noR K) w K) fun t72 =>
  qop T w (fun w K => pick t65 (.bool true) t72 w K) fun t73 =>
  ext w fun w =>
  cond t73 (R (.returned (.bool false)) w)
  (opv ((binOp .add 3 (g2 31) (.int .i64 1)).run Try.prog w) R fun t74 w =>
  j2 (upd (upd (upd (upd (upd (upd (mix [32,12,11,13,73,6,31] g2 e2) 32 t32) 12 t12) 11 (g2 31)) 13 t13) 73 t73) 31 t74) w))
  (j1 (upd (mix [32,12,11,13,73,6,31] g2 e2) 32 t32) w)) fun e1 g1 w =>
  opv ((binOp .and 3 a2 (.int .i64 4095)).run Try.prog w) R fun t76 w =>
  callF Try.prog 29 #[t22] w R fun t78 w =>
  opv ((binOp .rem 3 t76 t78).run Try.prog w) R fun t79 w =>
  callF Try.prog 22 #[t22, t79] w R fun t83 w =>
  opv ((Instr.extract t83 0).run Try.prog w) R fun t84 w =>
  opv ((Instr.extract t83 1).run Try.prog w) R fun t85 w =>
  opv ((Instr.alloc 39 true (.tuple #[])).run Try.prog w) R fun t14 w =>
  opu ((Instr.storeAt 39 t14 t84).run Try.prog w) R fun _ w =>
  opv ((Builtin.len_ #[33] 3 #[t28]).run Try.prog w) R fun t88 w =>
  opv ((binOp .gtr 3 t88 (.int .i64 0)).run Try.prog w) R fun t89 w =>
  opv ((binE false .neq 4 t85 t89).run Try.prog w) R fun t90 w =>
  gd t90 false (fun K => K t85 w) w fun t92 w =>
  gd t90 false (fun K => opv ((Op.unary .not t92).run Try.prog w) R K) w fun t93 w =>
  gd t90 false (fun K => K t93 w) w fun t94 w =>
  gd t94 true (fun K => K t22 w) w fun t95 w =>
  gd t94 true (fun K => K t79 w) w fun t96 w =>
  gd t94 true (fun K => callF Try.prog 27 #[t95, t96] w R K) w fun t97 w =>
  gd t94 true (fun K => opv ((Op.unary .not t97).run Try.prog w) R K) w fun t98 w =>
  gd t94 true (fun K => K t98 w) w fun t99 w =>
  gd t99 false (fun K => K t22 w) w fun t100 w =>
  gd t99 false (fun K => K t79 w) w fun t101 w =>
  gd t99 false (fun K => callF Try.prog 24 #[t100, t101] w R K) w fun t102 w =>
  gd t99 false (fun K => opv ((binE true .neq 3 t102 (.int .i64 (-1))).run Try.prog w) R K) w fun t103 w =>
  gd t94 true (fun K => pick t99 (.bool true) t103 w K) w fun t104 w =>
  gd t90 false (fun K => pick t94 t104 (.bool false) w K) w fun t105 w =>
  pick t90 (.bool true) t105 w fun t106 w =>
  cond t106 (R (.returned (.bool false)) w)
  (drawn w fun T w =>
  qop T w (fun w K => opv ((Op.unary .not t85).run Try.prog w) noR K) fun t108 =>
  qop T w (fun w K => gd t108 false (fun K => K t22 w) w K) fun t110 =>
  qop T w (fun w K => gd t108 false (fun K => K t79 w) w K) fun t111 =>
  qop T w (fun w K => gd t108 false (fun K => callF Try.prog 27 #[t110, t111] w noR K) w K) fun t112 =>
  qop T w (fun w K => gd t108 false (fun K => K t79 w) w K) fun t113 =>
  qop T w (fun w K => gd t108 false (fun K => opv ((Instr.fieldAt 39 t14 0).run Try.prog w) noR K) w K) fun t114 =>
  qop T w (fun w K => gd t108 false (fun K => opv ((Instr.loadAt 3 t114).run Try.prog w) noR K) w K) fun t115 =>
  qop T w (fun w K => gd t108 false (fun K => opv ((binE false .neq 3 t113 t115).run Try.prog w) noR K) w K) fun t116 =>
  qop T w (fun w K => gd t108 false (fun K => K t116 w) w K) fun t117 =>
  qop T w (fun w K => gd t117 true (fun K => opv ((Instr.fieldAt 39 t14 2).run Try.prog w) noR K) w K) fun t118 =>
  qop T w (fun w K => gd t117 true (fun K => opv ((Instr.loadAt 5 t118).run Try.prog w) noR K) w K) fun t119 =>
  qop T w (fun w K => gd t117 true (fun K => opv ((binOp .and 5 t119 (.int .u8 32)).run Try.prog w) noR K) w K) fun t120 =>
  qop T w (fun w K => gd t117 true (fun K => opv ((binE true .eql 5 t120 (.int .u8 0)).run Try.prog w) noR K) w K) fun t121 =>
  qop T w (fun w K => gd t108 false (fun K => pick t117 t121 (.bool false) w K) w K) fun t122 =>
  qop T w (fun w K => gd t108 false (fun K => opv ((binE false .eql 4 t112 t122).run Try.prog w) noR K) w K) fun t123 =>
  qop T w (fun w K => pick t108 (.bool true) t123 w K) fun t124 =>
  ext w fun w =>
  R (.returned t124) w)))
theorem F5.eq (R : Ending → World → Prop) (w : World) (a0 a1 a2 : Value) : F5 R w a0 a1 a2 = shF Try.prog 5 [0,1,2,3,6,7,9,10,11,12,13,14,15,17,26,29,30,31,32,73,106] [a0, a1, a2] R w := by kernel_rfl
theorem F5.calls {R : Ending → World → Prop} {w : World} {a0 a1 a2 : Value} (h : F5 R w a0 a1 a2) : Calls Try.prog 5 #[a0, a1, a2] w R := shF_sound (F5.eq R w a0 a1 a2 ▸ h)

/-- greenscreen/greenscreenlaw15.FieldTexts -/
def F6 (R : Ending → World → Prop) (w : World) (a0 a1 a2 : Value) : Prop :=
  opv ((Instr.box 23 a0).run Try.prog w) R fun t3 w =>
  callF Try.prog 8 #[] w R fun t13 w =>
  opv ((Op.unary .not t13).run Try.prog w) R fun t14 w =>
  cond t14 (R (.returned (.bool false)) w)
  (opv ((Instr.loadAt 23 t3).run Try.prog w) R fun t16 w =>
  callF Try.prog 9 #[t16, a1] w R fun t18 w =>
  opv ((Instr.extract t18 0).run Try.prog w) R fun t19 w =>
  opv ((Instr.extract t18 1).run Try.prog w) R fun t20 w =>
  opv ((Instr.extract t18 2).run Try.prog w) R fun t21 w =>
  opv ((Instr.alloc 28 true (.tuple #[])).run Try.prog w) R fun t8 w =>
  opu ((Instr.storeAt 28 t8 t20).run Try.prog w) R fun _ w =>
  opv ((Op.unary .not t21).run Try.prog w) R fun t23 w =>
  cond t23 (R (.returned (.bool true)) w)
  (join (upd (upd (upd (upd (upd (upd (ini [a0, a1, a2]) 3 t3) 6 (.bool false)) 14 t14) 7 t19) 9 t21) 23 t23) (fun j1 =>
  callF Try.prog 11 #[t19, (.int .i64 1000)] w R fun t25 w =>
  opv ((Builtin.len_ #[33] 3 #[t25]).run Try.prog w) R fun t26 w =>
  loop (upd (upd (upd (upd (upd (upd (upd (upd (upd (ini [a0, a1, a2]) 3 t3) 6 (.bool false)) 14 t14) 7 t19) 9 t21) 23 t23) 25 t25) 26 t26) 27 (.int .i64 0)) w fun e2 g2 w j2 =>
  opv ((binOp .lss 3 (g2 27) t26).run Try.prog w) R fun t28 w =>
  cond t28 (join (upd (mix [28,11,45,47,49,12,48,67,6,27] g2 e2) 28 t28) (fun j3 =>
  opv ((Instr.indexAt 33 t25 (g2 27)).run Try.prog w) R fun t29 w =>
  opv ((Instr.loadAt 39 t29).run Try.prog w) R fun t30 w =>
  opv ((Instr.alloc 39 true (.tuple #[])).run Try.prog w) R fun t11 w =>
  opu ((Instr.storeAt 39 t11 t30).run Try.prog w) R fun _ w =>
  drawn w fun T w =>
  qop T w (fun w K => opv ((Instr.fieldAt 39 t11 0).run Try.prog w) noR K) fun t33 =>
  qop T w (fun w K => opv ((Instr.loadAt 3 t33).run Try.prog w) noR K) fun t34 =>
  qop T w (fun w K => opv ((binOp .add 3 t34 (.int .i64 1)).run Try.prog w) noR K) fun t35 =>
  qop T w (fun w K => callF Try.prog 29 #[t19] w noR K) fun t37 =>
  qop T w (fun w K => opv ((binOp .rem 3 t35 t37).run Try.prog w) noR K) fun t38 =>
  qop T w (fun w K => opv ((Instr.fieldAt 39 t11 1).run Try.prog w) noR K) fun t39 =>
  qop T w (fun w K => opv ((Instr.loadAt 3 t39).run Try.prog w) noR K) fun t40 =>
  qop T w (fun w K => callF Try.prog 31 #[t19, a2, t38, t40] w noR K) fun t41 =>
  ext w fun w =>
  join (upd (upd (upd (mix [28,11,45,47,49,12,48,67,6,27] g2 e2) 28 t28) 11 t11) 12 t41) (fun j4 =>
  opv ((Instr.fieldAt 39 t11 2).run Try.prog w) R fun t42 w =>
  opv ((Instr.loadAt 5 t42).run Try.prog w) R fun t43 w =>
  opv ((binOp .and 5 t43 (.int .u8 12)).run Try.prog w) R fun t44 w =>
  opv ((binE true .eql 5 t44 (.int .u8 12)).run Try.prog w) R fun t45 w =>
  cond t45 (opv ((Instr.fieldAt 39 t11 1).run Try.prog w) R fun t46 w =>
  opv ((Instr.loadAt 3 t46).run Try.prog w) R fun t47 w =>
  loop (upd (upd (upd (upd (upd (upd (upd (mix [28,11,45,47,49,12,48,67,6,27] g2 e2) 28 t28) 11 t11) 12 t41) 45 t45) 12 (.string ⟨#[]⟩)) 47 t47) 48 (.int .i64 0)) w fun e5 g5 w j5 =>
  opv ((binOp .lss 3 (g5 48) t47).run Try.prog w) R fun t49 w =>
  cond t49 (opv ((binOp .add 9 (g5 12) (.string ⟨#[32]⟩)).run Try.prog w) R fun t51 w =>
  opv ((binOp .add 3 (g5 48) (.int .i64 1)).run Try.prog w) R fun t52 w =>
  j5 (upd (upd (upd (mix [49,12,48] g5 e5) 49 t49) 12 t51) 48 t52) w)
  (j4 (upd (mix [49,12,48] g5 e5) 49 t49) w))
  (j4 (upd (upd (upd (upd (mix [28,11,45,47,49,12,48,67,6,27] g2 e2) 28 t28) 11 t11) 12 t41) 45 t45) w)) fun e4 g4 w =>
  drawn w fun T w =>
  qop T w (fun w K => opv ((Instr.loadAt 39 t11).run Try.prog w) noR K) fun t55 =>
  qop T w (fun w K => callF Try.prog 20 #[t19, a2, t55] w noR K) fun t56 =>
  qop T w (fun w K => opv ((binE false .neq 9 t56 (g4 12)).run Try.prog w) noR K) fun t58 =>
  qop T w (fun w K => gd t58 false (fun K => K t19 w) w K) fun t60 =>
  qop T w (fun w K => gd t58 false (fun K => opv ((Instr.loadAt 39 t11).run Try.prog w) noR K) w K) fun t61 =>
  qop T w (fun w K => gd t58 false (fun K => opv ((Instr.fieldAt 39 t11 1).run Try.prog w) noR K) w K) fun t64 =>
  qop T w (fun w K => gd t58 false (fun K => opv ((Instr.loadAt 3 t64).run Try.prog w) noR K) w K) fun t65 =>
  ext w fun w =>
  lop T w (fun w K => gd t58 false (fun K => callF Try.prog 19 #[t60, t61] w R K) w K) fun t62 w =>
  qop T w (fun w K => gd t58 false (fun K => opv ((Builtin.len_ #[43] 3 #[t62]).run Try.prog w) noR K) w K) fun t63 =>
  qop T w (fun w K => gd t58 false (fun K => opv ((binE false .neq 3 t63 t65).run Try.prog w) noR K) w K) fun t66 =>
  qop T w (fun w K => pick t58 (.bool true) t66 w K) fun t67 =>
  ext w fun w =>
  cond t67 (R (.returned (.bool false)) w)
  (j3 (upd (mix [45,47,49,12,48] g4 e4) 67 t67) w)) fun e3 g3 w =>
  opv ((binOp .add 3 (g2 27) (.int .i64 1)).run Try.prog w) R fun t68 w =>
  j2 (upd (mix [11,45,47,49,12,48,67,6] g3 e3) 27 t68) w)
  (j1 (upd (mix [28,11,45,47,49,12,48,67,6,27] g2 e2) 28 t28) w)) fun e1 g1 w =>
  R (.returned (.bool true)) w))
theorem F6.eq (R : Ending → World → Prop) (w : World) (a0 a1 a2 : Value) : F6 R w a0 a1 a2 = shF Try.prog 6 [0,1,2,3,6,7,9,11,12,14,23,25,26,27,28,45,47,48,49,67] [a0, a1, a2] R w := by kernel_rfl
theorem F6.calls {R : Ending → World → Prop} {w : World} {a0 a1 a2 : Value} (h : F6 R w a0 a1 a2) : Calls Try.prog 6 #[a0, a1, a2] w R := shF_sound (F6.eq R w a0 a1 a2 ▸ h)

/-- greenscreen/greenscreenlaw15.FieldMarks -/
def F7 (R : Ending → World → Prop) (w : World) (a0 a1 a2 : Value) : Prop :=
  opv ((Instr.box 23 a0).run Try.prog w) R fun t3 w =>
  callF Try.prog 8 #[] w R fun t17 w =>
  opv ((Op.unary .not t17).run Try.prog w) R fun t18 w =>
  cond t18 (R (.returned (.bool false)) w)
  (opv ((Instr.loadAt 23 t3).run Try.prog w) R fun t20 w =>
  callF Try.prog 9 #[t20, a1] w R fun t22 w =>
  opv ((Instr.extract t22 0).run Try.prog w) R fun t23 w =>
  opv ((Instr.extract t22 1).run Try.prog w) R fun t24 w =>
  opv ((Instr.extract t22 2).run Try.prog w) R fun t25 w =>
  opv ((Instr.alloc 28 true (.tuple #[])).run Try.prog w) R fun t8 w =>
  opu ((Instr.storeAt 28 t8 t24).run Try.prog w) R fun _ w =>
  opv ((Op.unary .not t25).run Try.prog w) R fun t27 w =>
  gd t27 false (fun K => K a2 w) w fun t29 w =>
  gd t27 false (fun K => opv ((Builtin.len_ #[41] 3 #[t29]).run Try.prog w) R K) w fun t30 w =>
  gd t27 false (fun K => opv ((binOp .gtr 3 t30 (.int .i64 30)).run Try.prog w) R K) w fun t31 w =>
  pick t27 (.bool true) t31 w fun t32 w =>
  cond t32 (R (.returned (.bool true)) w)
  (join (upd (upd (upd (upd (upd (upd (upd (ini [a0, a1, a2]) 3 t3) 6 (.bool false)) 18 t18) 8 t8) 7 t23) 9 t25) 32 t32) (fun j1 =>
  opv ((Builtin.len_ #[41] 3 #[a2]).run Try.prog w) R fun t34 w =>
  loop (upd (upd (upd (upd (upd (upd (upd (upd (upd (upd (ini [a0, a1, a2]) 3 t3) 6 (.bool false)) 18 t18) 8 t8) 7 t23) 9 t25) 32 t32) 33 a2) 34 t34) 35 (.int .i64 0)) w fun e2 g2 w j2 =>
  opv ((binOp .lss 3 (g2 35) t34).run Try.prog w) R fun t36 w =>
  cond t36 (opv ((Instr.indexAt 41 a2 (g2 35)).run Try.prog w) R fun t37 w =>
  opv ((Instr.loadAt 3 t37).run Try.prog w) R fun t38 w =>
  opv ((Instr.loadAt 28 t8).run Try.prog w) R fun t40 w =>
  callF Try.prog 23 #[t40, t38] w R fun t42 w =>
  opv ((Instr.extract t42 0).run Try.prog w) R fun t43 w =>
  opv ((Instr.extract t42 1).run Try.prog w) R fun t44 w =>
  opv ((Instr.alloc 40 true (.tuple #[])).run Try.prog w) R fun t12 w =>
  opu ((Instr.storeAt 40 t12 t43).run Try.prog w) R fun _ w =>
  opv ((Instr.loadAt 28 t8).run Try.prog w) R fun t45 w =>
  callF Try.prog 32 #[t45, t38, (.bool true)] w R fun t47 w =>
  opu ((Instr.storeAt 28 t8 t47).run Try.prog w) R fun _ w =>
  callF Try.prog 33 #[t23, t38] w R fun t50 w =>
  opv ((binE false .neq 4 t50 t44).run Try.prog w) R fun t52 w =>
  gd t52 false (fun K => K t23 w) w fun t54 w =>
  gd t52 false (fun K => opv ((Instr.loadAt 28 t8).run Try.prog w) R K) w fun t55 w =>
  gd t52 false (fun K => callF Try.prog 34 #[t54, t55] w R K) w fun t56 w =>
  gd t52 false (fun K => opv ((Op.unary .not t56).run Try.prog w) R K) w fun t57 w =>
  pick t52 (.bool true) t57 w fun t58 w =>
  cond t58 (R (.returned (.bool false)) w)
  (opv ((binOp .add 3 (g2 35) (.int .i64 1)).run Try.prog w) R fun t59 w =>
  j2 (upd (upd (upd (upd (upd (mix [36,11,13,58,6,35] g2 e2) 36 t36) 11 t38) 13 t44) 58 t58) 35 t59) w))
  (j1 (upd (mix [36,11,13,58,6,35] g2 e2) 36 t36) w)) fun e1 g1 w =>
  join (upd (mix [33,34,36,11,13,58,6,35] g1 e1) 14 (.int .i64 0)) (fun j3 =>
  opv ((Instr.loadAt 28 t8).run Try.prog w) R fun t60 w =>
  callF Try.prog 10 #[t60] w R fun t61 w =>
  opv ((Builtin.len_ #[31] 3 #[t61]).run Try.prog w) R fun t62 w =>
  loop (upd (upd (upd (upd (mix [33,34,36,11,13,58,6,35] g1 e1) 14 (.int .i64 0)) 61 t61) 62 t62) 63 (.int .i64 0)) w fun e4 g4 w j4 =>
  opv ((binOp .lss 3 (g4 63) t62).run Try.prog w) R fun t64 w =>
  cond t64 (join (upd (mix [64,16,70,14,63] g4 e4) 64 t64) (fun j5 =>
  opv ((Instr.indexAt 31 t61 (g4 63)).run Try.prog w) R fun t65 w =>
  opv ((Instr.loadAt 40 t65).run Try.prog w) R fun t66 w =>
  opv ((Instr.alloc 40 true (.tuple #[])).run Try.prog w) R fun t16 w =>
  opu ((Instr.storeAt 40 t16 t66).run Try.prog w) R fun _ w =>
  opv ((Instr.fieldAt 40 t16 2).run Try.prog w) R fun t67 w =>
  opv ((Instr.loadAt 5 t67).run Try.prog w) R fun t68 w =>
  opv ((binOp .rem 5 t68 (.int .u8 2)).run Try.prog w) R fun t69 w =>
  opv ((binE true .eql 5 t69 (.int .u8 1)).run Try.prog w) R fun t70 w =>
  cond t70 (opv ((binOp .add 3 (g4 14) (.int .i64 1)).run Try.prog w) R fun t72 w =>
  opv ((Instr.loadAt 28 t8).run Try.prog w) R fun t73 w =>
  opv ((Instr.fieldAt 40 t16 0).run Try.prog w) R fun t74 w =>
  opv ((Instr.loadAt 3 t74).run Try.prog w) R fun t75 w =>
  callF Try.prog 32 #[t73, t75, (.bool false)] w R fun t76 w =>
  opu ((Instr.storeAt 28 t8 t76).run Try.prog w) R fun _ w =>
  j5 (upd (upd (upd (upd (mix [64,16,70,14,63] g4 e4) 64 t64) 16 t16) 70 t70) 14 t72) w)
  (j5 (upd (upd (upd (mix [64,16,70,14,63] g4 e4) 64 t64) 16 t16) 70 t70) w)) fun e5 g5 w =>
  opv ((binOp .add 3 (g4 63) (.int .i64 1)).run Try.prog w) R fun t77 w =>
  j4 (upd (mix [16,70,14] g5 e5) 63 t77) w)
  (j3 (upd (mix [64,16,70,14,63] g4 e4) 64 t64) w)) fun e3 g3 w =>
  callF Try.prog 35 #[t23] w R fun t79 w =>
  opv ((binE false .eql 3 t79 (g3 14)).run Try.prog w) R fun t81 w =>
  gd t81 true (fun K => K t23 w) w fun t83 w =>
  gd t81 true (fun K => opv ((Instr.loadAt 28 t8).run Try.prog w) R K) w fun t84 w =>
  gd t81 true (fun K => callF Try.prog 34 #[t83, t84] w R K) w fun t85 w =>
  pick t81 t85 (.bool false) w fun t86 w =>
  gd t86 true (fun K => K t23 w) w fun t88 w =>
  gd t86 true (fun K => callF Try.prog 35 #[t88] w R K) w fun t89 w =>
  gd t86 true (fun K => opv ((binE true .eql 3 t89 (.int .i64 0)).run Try.prog w) R K) w fun t90 w =>
  pick t86 t90 (.bool false) w fun t91 w =>
  R (.returned t91) w))
theorem F7.eq (R : Ending → World → Prop) (w : World) (a0 a1 a2 : Value) : F7 R w a0 a1 a2 = shF Try.prog 7 [0,1,2,3,6,7,8,9,11,13,14,16,18,32,33,34,35,36,58,61,62,63,64,70] [a0, a1, a2] R w := by kernel_rfl
theorem F7.calls {R : Ending → World → Prop} {w : World} {a0 a1 a2 : Value} (h : F7 R w a0 a1 a2) : Calls Try.prog 7 #[a0, a1, a2] w R := shF_sound (F7.eq R w a0 a1 a2 ▸ h)

/-- greenscreen/greenscreenlaw15.alive -/
def F8 (R : Ending → World → Prop) (w : World) : Prop :=
  opv ((Instr.build 23 #[(0, (.int .i64 1)), (1, (.int .i64 5))]).run Try.prog w) R fun t10 w =>
  callF Try.prog 36 #[t10] w R fun t11 w =>
  opv ((Instr.extract t11 0).run Try.prog w) R fun t12 w =>
  opv ((Instr.extract t11 1).run Try.prog w) R fun t13 w =>
  opv ((binE true .eql 26 t12 (.pointer none)).run Try.prog w) R fun t15 w =>
  cond t15 (R (.returned (.bool false)) w)
  (callF Try.prog 12 #[t12] w R fun t17 w =>
  callF Try.prog 27 #[t12, (.int .i64 2)] w R fun t19 w =>
  opv ((Instr.build 45 #[(2, (.bool true)), (0, (.int .u8 64))]).run Try.prog w) R fun t21 w =>
  callF Try.prog 37 #[t12, (.int .i64 3), t21] w R fun t22 w =>
  opv ((Instr.build 45 #[(0, (.int .u8 193))]).run Try.prog w) R fun t24 w =>
  callF Try.prog 37 #[t12, (.int .i64 4), t24] w R fun t25 w =>
  callF Try.prog 22 #[t12, (.int .i64 1)] w R fun t28 w =>
  opv ((Instr.extract t28 0).run Try.prog w) R fun t29 w =>
  opv ((Instr.extract t28 1).run Try.prog w) R fun t30 w =>
  opv ((Instr.alloc 39 true (.tuple #[])).run Try.prog w) R fun t5 w =>
  opu ((Instr.storeAt 39 t5 t29).run Try.prog w) R fun _ w =>
  callF Try.prog 33 #[t12, (.int .i64 0)] w R fun t32 w =>
  callF Try.prog 35 #[t12] w R fun t34 w =>
  opv ((Op.unary .not t17).run Try.prog w) R fun t36 w =>
  gd t36 true (fun K => K t19 w) w fun t38 w =>
  pick t36 t38 (.bool false) w fun t39 w =>
  gd t39 true (fun K => K t12 w) w fun t41 w =>
  gd t39 true (fun K => callF Try.prog 12 #[t41] w R K) w fun t42 w =>
  pick t39 t42 (.bool false) w fun t43 w =>
  gd t43 true (fun K => K t30 w) w fun t45 w =>
  pick t43 t45 (.bool false) w fun t46 w =>
  gd t46 true (fun K => opv ((Instr.loadAt 39 t5).run Try.prog w) R K) w fun t48 w =>
  gd t46 true (fun K => opv ((Instr.build 39 #[(0, (.int .i64 3)), (1, (.int .i64 4))]).run Try.prog w) R K) w fun t49 w =>
  gd t46 true (fun K => opv ((binE false .eql 39 t48 t49).run Try.prog w) R K) w fun t50 w =>
  pick t46 t50 (.bool false) w fun t51 w =>
  gd t51 true (fun K => K t12 w) w fun t53 w =>
  gd t51 true (fun K => opv ((Instr.loadAt 39 t5).run Try.prog w) R K) w fun t54 w =>
  gd t51 true (fun K => callF Try.prog 17 #[t53, t54, (.int .i64 9)] w R K) w fun t55 w =>
  gd t51 true (fun K => opv ((Instr.buildSlice 41 4 #[(0, (.int .i64 4)), (1, (.int .i64 0)), (2, (.int .i64 1)), (3, (.int .i64 2))]).run Try.prog w) R K) w fun t56 w =>
  gd t51 true (fun K => callF Try.prog 16 #[t55, t56] w R K) w fun t57 w =>
  pick t51 t57 (.bool false) w fun t58 w =>
  gd t58 true (fun K => K t12 w) w fun t60 w =>
  gd t58 true (fun K => callF Try.prog 24 #[t60, (.int .i64 3)] w R K) w fun t61 w =>
  gd t58 true (fun K => opv ((binE true .eql 3 t61 (.int .i64 3)).run Try.prog w) R K) w fun t62 w =>
  pick t58 t62 (.bool false) w fun t63 w =>
  gd t63 true (fun K => K t12 w) w fun t65 w =>
  gd t63 true (fun K => callF Try.prog 25 #[t65, (.int .i64 3)] w R K) w fun t66 w =>
  gd t63 true (fun K => opv ((binE true .eql 3 t66 (.int .i64 3)).run Try.prog w) R K) w fun t67 w =>
  pick t63 t67 (.bool false) w fun t68 w =>
  gd t68 true (fun K => K t12 w) w fun t70 w =>
  gd t68 true (fun K => opv ((Instr.loadAt 39 t5).run Try.prog w) R K) w fun t71 w =>
  gd t68 true (fun K => callF Try.prog 19 #[t70, t71] w R K) w fun t72 w =>
  gd t68 true (fun K => opv ((convert 43 9 t72).run Try.prog w) R K) w fun t73 w =>
  gd t68 true (fun K => opv ((binE true .eql 9 t73 (.string ⟨#[193, 0, 0, 0]⟩)).run Try.prog w) R K) w fun t74 w =>
  pick t68 t74 (.bool false) w fun t75 w =>
  gd t75 true (fun K => K t12 w) w fun t77 w =>
  gd t75 true (fun K => callF Try.prog 27 #[t77, (.int .i64 3)] w R K) w fun t78 w =>
  gd t75 true (fun K => opv ((Op.unary .not t78).run Try.prog w) R K) w fun t79 w =>
  pick t75 t79 (.bool false) w fun t80 w =>
  gd t80 true (fun K => K t12 w) w fun t82 w =>
  gd t80 true (fun K => callF Try.prog 27 #[t82, (.int .i64 4)] w R K) w fun t83 w =>
  pick t80 t83 (.bool false) w fun t84 w =>
  gd t84 true (fun K => K t32 w) w fun t86 w =>
  pick t84 t86 (.bool false) w fun t87 w =>
  gd t87 true (fun K => K t34 w) w fun t89 w =>
  gd t87 true (fun K => opv ((binE true .eql 3 t89 (.int .i64 1)).run Try.prog w) R K) w fun t90 w =>
  pick t87 t90 (.bool false) w fun t91 w =>
  gd t91 true (fun K => K t12 w) w fun t93 w =>
  gd t91 true (fun K => callF Try.prog 13 #[t93] w R K) w fun t94 w =>
  gd t91 true (fun K => opv ((binE true .eql 3 t94 (.int .i64 4)).run Try.prog w) R K) w fun t95 w =>
  pick t91 t95 (.bool false) w fun t96 w =>
  gd t96 true (fun K => K t12 w) w fun t98 w =>
  gd t96 true (fun K => opv ((Instr.loadAt 39 t5).run Try.prog w) R K) w fun t99 w =>
  gd t96 true (fun K => callF Try.prog 20 #[t98, (.int .i64 37), t99] w R K) w fun t100 w =>
  gd t96 true (fun K => opv ((binE true .eql 9 t100 (.string ⟨#[65, 32, 32, 32]⟩)).run Try.prog w) R K) w fun t101 w =>
  pick t96 t101 (.bool false) w fun t102 w =>
  gd t102 true (fun K => K t12 w) w fun t104 w =>
  gd t102 true (fun K => callF Try.prog 11 #[t104, (.int .i64 9)] w R K) w fun t105 w =>
  gd t102 true (fun K => opv ((Builtin.len_ #[33] 3 #[t105]).run Try.prog w) R K) w fun t106 w =>
  gd t102 true (fun K => opv ((binE true .eql 3 t106 (.int .i64 1)).run Try.prog w) R K) w fun t107 w =>
  pick t102 t107 (.bool false) w fun t108 w =>
  R (.returned t108) w)
theorem F8.eq (R : Ending → World → Prop) (w : World) : F8 R w  = shF Try.prog 8 [0,1,3,4,5,6,7,8,15] [] R w := by kernel_rfl
theorem F8.calls {R : Ending → World → Prop} {w : World} (h : F8 R w ) : Calls Try.prog 8 #[] w R := shF_sound (F8.eq R w  ▸ h)

end Go.Proofs.Ytojcbhkhfcddnaa
