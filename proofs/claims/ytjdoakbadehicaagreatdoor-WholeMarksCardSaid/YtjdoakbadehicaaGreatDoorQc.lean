/- Part of a proof. No condition but those that its theorems state. -/
import Derived.Test.YtjdoakbadehicaaGreatDoorProg
import Derived.Test.YtjdoakbadehicaaGreatDoorQa
import Derived.KernelRfl
import Derived.Lib.RuneBytes
import Derived.Lib.OthersKept
import Derived.Lib.MapLaws
import Derived.Test.YtjdoakbadehicaaGreatDoorQb
import Derived.Lib.ItoaMem
import Derived.Lib.ItoaLen
import Derived.Laws.IdiomStrings
import Derived.Lib.SliceRun
import Derived.Shelf.Strings.Builder1
import Derived.Shelf.Strings.BuilderF
import Derived.Shelf.Strings.BuilderK
import Derived.Shelf.Strings.BuilderRune
import Derived.Shelf.Utf8.AppendRunePlain
import Derived.Shelf.Strconv.Itoa0
import Derived.Shelf.Strconv.Itoa1
import Derived.Shelf.LaysM
import Derived.Shelf.Strconv.Itoa2
import Derived.Shelf.Strconv.Itoa3
import Derived.Shelf.Strings.BuilderCap
set_option linter.unusedVariables false
set_option linter.unusedSimpArgs false
section
namespace Go.Proofs.YtjdoakbadehicaaGreatDoor
open Go Go.Sh
section
variable (R : Ending → World → Prop) (w : World)
set_option maxRecDepth 100000
def F5 (a0 a1 a2 : Value) : Prop :=
 oB 32 a0 w R fun t3 w =>
 oC 8 #[] w R fun t19 w =>
 oU t19 w R fun t20 w =>
 gd t20 false (fun K => oC 25 #[] w R K) w fun t22 w =>
 gd t20 false (fun K => oU t22 w R K) w fun t23 w =>
 pick t20 (.bool true) t23 w fun t24 w =>
 cond t24 (R (.returned (.bool false)) w)
 (oL 32 t3 w R fun t26 w =>
 oC 22 #[t26, a1] w R fun t28 w =>
 oE t28 0 w R fun t29 w =>
 oE t28 1 w R fun t30 w =>
 oE t28 2 w R fun t31 w =>
 oU t31 w R fun t33 w =>
 gd t33 false (fun K => K a2 w) w fun t35 w =>
 gd t33 false (fun K => oN 63 t35 w R K) w fun t36 w =>
 gd t33 false (fun K => oP .gtr 3 t36 (Z.i 20) w R K) w fun t37 w =>
 pick t33 (.bool true) t37 w fun t38 w =>
 cond t38 (R (.returned (.bool true)) w)
 (bi ((Instr.buildSlice 24 2 #[(0, (Z.u 241)), (1, (Z.u 3))]).run Tryz.prog w) R fun t41 w =>
 oC 27 #[t29, t41] w R fun t42 w =>
 oC 26 #[t30, t42] w R fun t43 w =>
 oC 16 #[t30] w R fun t45 w =>
 oC 28 #[t45] w R fun t46 w =>
 oQ true .neq 25 t46 (Z.i 0) w R fun t47 w =>
 cond t47 (R (.returned (.bool false)) w)
 (bi ((Instr.makeMap 69 none).run Tryz.prog w) R fun t48 w =>
 join (upd (upd (upd (upd (upd (upd (upd (upd (upd (ini [a0, a1, a2]) 3 t3) 6 (.bool false)) 24 t24) 7 t29) 8 t30) 9 t31) 38 t38) 47 t47) 10 t48) (fun j1 =>
 oN 63 a2 w R fun t50 w =>
 loop (upd (upd (upd (upd (upd (upd (upd (upd (upd (upd (upd (upd (ini [a0, a1, a2]) 3 t3) 6 (.bool false)) 24 t24) 7 t29) 8 t30) 9 t31) 38 t38) 47 t47) 10 t48) 49 a2) 50 t50) 51 (Z.i 0)) w fun e2 g2 w j2 =>
 oP .lss 3 (g2 51) t50 w R fun t52 w =>
 cond t52 (join (upd (mix [52,12,78,13,15,16,112,51] g2 e2) 52 t52) (fun j3 =>
 oI 63 a2 (g2 51) w R fun t53 w =>
 oL 45 t53 w R fun t54 w =>
 oA 45 w R fun t12 w =>
 oS 45 t12 t54 w R fun _ w =>
 oG 45 t12 0 3 w R fun t56 w =>
 oP .geq 3 t56 (Z.i 11) w R fun t57 w =>
 gd t57 true (fun K => oF 45 t12 0 w R K) w fun t59 w =>
 gd t57 true (fun K => oL 3 t59 w R K) w fun t60 w =>
 gd t57 true (fun K => oQ true .neq 3 t60 (Z.i 12) w R K) w fun t61 w =>
 pick t57 t61 (.bool false) w fun t62 w =>
 gd t62 true (fun K => oF 45 t12 0 w R K) w fun t64 w =>
 gd t62 true (fun K => oL 3 t64 w R K) w fun t65 w =>
 gd t62 true (fun K => oQ true .neq 3 t65 (Z.i 14) w R K) w fun t66 w =>
 pick t62 t66 (.bool false) w fun t67 w =>
 gd t67 true (fun K => oF 45 t12 0 w R K) w fun t69 w =>
 gd t67 true (fun K => oL 3 t69 w R K) w fun t70 w =>
 gd t67 true (fun K => oQ true .neq 3 t70 (Z.i 15) w R K) w fun t71 w =>
 pick t67 t71 (.bool false) w fun t72 w =>
 gd t72 false (fun K => K t30 w) w fun t74 w =>
 gd t72 false (fun K => oC 16 #[t74] w R K) w fun t75 w =>
 gd t72 false (fun K => oC 28 #[t75] w R K) w fun t76 w =>
 gd t72 false (fun K => oQ true .neq 25 t76 (Z.i 0) w R K) w fun t77 w =>
 pick t72 (.bool true) t77 w fun t78 w =>
 cond t78 (j3 (upd (upd (upd (mix [52,12,78,13,15,16,112,51] g2 e2) 52 t52) 12 t12) 78 t78) w)
 (oC 13 #[t29] w R fun t80 w =>
 oC 13 #[t29] w R fun t82 w =>
 oC 24 #[t82] w R fun t83 w =>
 oC 29 #[t80, t83] w R fun t84 w =>
 oL 45 t12 w R fun t87 w =>
 oC 18 #[t30, t87] w R fun t88 w =>
 oE t88 0 w R fun t89 w =>
 oE t88 1 w R fun t90 w =>
 oG 45 t12 0 3 w R fun t92 w =>
 oQ true .eql 3 t92 (Z.i 1) w R fun t93 w =>
 gd t93 false (fun K => oF 45 t12 0 w R K) w fun t95 w =>
 gd t93 false (fun K => oL 3 t95 w R K) w fun t96 w =>
 gd t93 false (fun K => oQ true .eql 3 t96 (Z.i 10) w R K) w fun t97 w =>
 pick t93 (.bool true) t97 w fun t98 w =>
 gd t98 false (fun K => oF 45 t12 0 w R K) w fun t100 w =>
 gd t98 false (fun K => oL 3 t100 w R K) w fun t101 w =>
 gd t98 false (fun K => oP .geq 3 t101 (Z.i 12) w R K) w fun t102 w =>
 pick t98 (.bool true) t102 w fun t103 w =>
 oQ true .eql 25 t90 (Z.i 0) w R fun t105 w =>
 gd t105 true (fun K => K t103 w) w fun t107 w =>
 pick t105 t107 (.bool false) w fun t108 w =>
 gd t108 true (fun K => K t84 w) w fun t110 w =>
 gd t108 true (fun K => oP .geq 3 t110 (Z.i 0) w R K) w fun t111 w =>
 pick t108 t111 (.bool false) w fun t112 w =>
 cond t112 (qY ((Instr.mapUpdate 69 t48 t84 (.bool true)).run Tryz.prog w) R fun _ w =>
 j3 (upd (upd (upd (upd (upd (upd (upd (mix [52,12,78,13,15,16,112,51] g2 e2) 52 t52) 12 t12) 78 t78) 13 t84) 15 t90) 16 t103) 112 t112) w)
 (j3 (upd (upd (upd (upd (upd (upd (upd (mix [52,12,78,13,15,16,112,51] g2 e2) 52 t52) 12 t12) 78 t78) 13 t84) 15 t90) 16 t103) 112 t112) w))) fun e3 g3 w =>
 oP .add 3 (g2 51) (Z.i 1) w R fun t115 w =>
 j2 (upd (mix [12,78,13,15,16,112] g3 e3) 51 t115) w)
 (j1 (upd (mix [52,12,78,13,15,16,112,51] g2 e2) 52 t52) w)) fun e1 g1 w =>
 join (mix [49,50,52,12,78,13,15,16,112,51] g1 e1) (fun j4 =>
 oC 13 #[t29] w R fun t117 w =>
 oC 30 #[t117] w R fun t118 w =>
 loop (upd (upd (mix [49,50,52,12,78,13,15,16,112,51] g1 e1) 118 t118) 119 (Z.i 0)) w fun e5 g5 w j5 =>
 oP .lss 3 (g5 119) t118 w R fun t120 w =>
 cond t120 (oC 13 #[t29] w R fun t123 w =>
 oC 31 #[t123, (g5 119)] w R fun t125 w =>
 oA 37 w R fun t18 w =>
 oS 37 t18 t125 w R fun _ w =>
 oG 37 t18 2 4 w R fun t127 w =>
 gd t127 true (fun K => oF 37 t18 0 w R K) w fun t129 w =>
 gd t127 true (fun K => oL 5 t129 w R K) w fun t130 w =>
 gd t127 true (fun K => oP .and 5 t130 (Z.u 1) w R K) w fun t131 w =>
 gd t127 true (fun K => oQ true .eql 5 t131 (Z.u 1) w R K) w fun t132 w =>
 gd t127 true (fun K => K t48 w) w fun t133 w =>
 gd t127 true (fun K => K (g5 119) w) w fun t134 w =>
 gd t127 true (fun K => bi ((Instr.lookup 69 t133 t134 false).run Tryz.prog w) R K) w fun t135 w =>
 gd t127 true (fun K => oQ false .neq 4 t132 t135 w R K) w fun t136 w =>
 pick t127 t136 (.bool false) w fun t137 w =>
 cond t137 (R (.returned (.bool false)) w)
 (oP .add 3 (g5 119) (Z.i 1) w R fun t138 w =>
 j5 (upd (upd (upd (upd (upd (mix [120,17,18,137,6,119] g5 e5) 120 t120) 17 (g5 119)) 18 t18) 137 t137) 119 t138) w))
 (j4 (upd (mix [120,17,18,137,6,119] g5 e5) 120 t120) w)) fun e4 g4 w =>
 R (.returned (.bool true)) w)))
theorem F5.calls {R w a0 a1 a2} : F5 R w a0 a1 a2 → oX 5 #[a0, a1, a2] w R := Z.k [0,1,2,3,6,7,8,9,10,12,13,15,16,17,18,24,38,47,49,50,51,52,78,112,118,119,120,137]
def Wv (a0 a1 : Value) : Prop :=
 oB 32 a0 w R fun t2 w =>
 oL 32 t2 w R fun t13 w =>
 oL 32 t2 w R fun t14 w =>
 oC 12 #[t13, t14] w R fun t15 w =>
 oE t15 0 w R fun t16 w =>
 oE t15 1 w R fun t17 w =>
 oQ true .neq 25 t17 (Z.i 0) w R fun t19 w =>
 gd t19 false (fun K => K t16 w) w fun t21 w =>
 gd t19 false (fun K => oC 13 #[t21] w R K) w fun t22 w =>
 gd t19 false (fun K => oC 30 #[t22] w R K) w fun t23 w =>
 gd t19 false (fun K => oP .gtr 3 t23 (Z.i 60) w R K) w fun t24 w =>
 pick t19 (.bool true) t24 w fun t25 w =>
 gd t25 false (fun K => K a1 w) w fun t27 w =>
 gd t25 false (fun K => oN 57 t27 w R K) w fun t28 w =>
 gd t25 false (fun K => oP .gtr 3 t28 (Z.i 20) w R K) w fun t29 w =>
 pick t25 (.bool true) t29 w fun t30 w =>
 cond t30 (R (.returned (.tuple #[(.pointer none), (.pointer none), (.bool false)])) w)
 (oC 15 #[t16] w R fun t32 w =>
 oC 16 #[t32] w R fun t34 w =>
 oC 17 #[t34] w R fun t35 w =>
 join (upd (upd (upd (upd (upd (upd (upd (upd (ini [a0, a1]) 2 t2) 4 (.pointer none)) 5 (.pointer none)) 6 (.bool false)) 7 t16) 8 t17) 30 t30) 9 t32) (fun j1 =>
 oN 57 a1 w R fun t37 w =>
 loop (upd (upd (upd (upd (upd (upd (upd (upd (upd (upd (upd (ini [a0, a1]) 2 t2) 4 (.pointer none)) 5 (.pointer none)) 6 (.bool false)) 7 t16) 8 t17) 30 t30) 9 t32) 36 a1) 37 t37) 38 (Z.i 0)) w fun e2 g2 w j2 =>
 oP .lss 3 (g2 38) t37 w R fun t39 w =>
 cond t39 (join (upd (mix [39,11,45,4,5,6,49,38] g2 e2) 39 t39) (fun j3 =>
 oI 57 a1 (g2 38) w R fun t40 w =>
 oL 118 t40 w R fun t41 w =>
 oA 118 w R fun t11 w =>
 oS 118 t11 t41 w R fun _ w =>
 oG 118 t11 0 24 w R fun t43 w =>
 oN 24 t43 w R fun t44 w =>
 oP .gtr 3 t44 (Z.i 150) w R fun t45 w =>
 cond t45 (R (.returned (.tuple #[(.pointer none), (.pointer none), (.bool false)])) w)
 (oG 118 t11 0 24 w R fun t47 w =>
 oN 24 t47 w R fun t48 w =>
 oP .gtr 3 t48 (Z.i 0) w R fun t49 w =>
 cond t49 (oG 118 t11 0 24 w R fun t53 w =>
 oC 27 #[t16, t53] w R fun t54 w =>
 oC 26 #[t32, t54] w R fun t55 w =>
 j3 (upd (upd (upd (upd (mix [39,11,45,4,5,6,49,38] g2 e2) 39 t39) 11 t11) 45 t45) 49 t49) w)
 (oG 118 t11 1 45 w R fun t58 w =>
 oC 18 #[t32, t58] w R fun t59 w =>
 j3 (upd (upd (upd (upd (mix [39,11,45,4,5,6,49,38] g2 e2) 39 t39) 11 t11) 45 t45) 49 t49) w))) fun e3 g3 w =>
 oP .add 3 (g2 38) (Z.i 1) w R fun t60 w =>
 j2 (upd (mix [11,45,4,5,6,49] g3 e3) 38 t60) w)
 (j1 (upd (mix [39,11,45,4,5,6,49,38] g2 e2) 39 t39) w)) fun e1 g1 w =>
 R (.returned (.tuple #[t16, t32, (.bool true)])) w)
theorem Wv.calls {R w a0 a1} : Wv R w a0 a1 → oX 22 #[a0, a1] w R := Z.k [0,1,2,4,5,6,7,8,9,11,30,36,37,38,39,45,49]
def F25 : Prop :=
 oD 32 #[(0, (Z.i 1)), (1, (Z.i 6))] w R fun t5 w =>
 oD 32 #[(0, (Z.i 1)), (1, (Z.i 6))] w R fun t6 w =>
 oC 12 #[t5, t6] w R fun t7 w =>
 oE t7 0 w R fun t8 w =>
 oE t7 1 w R fun t9 w =>
 oQ true .eql 28 t8 (.pointer none) w R fun t11 w =>
 gd t11 false (fun K => K t8 w) w fun t13 w =>
 gd t11 false (fun K => oC 13 #[t13] w R K) w fun t14 w =>
 gd t11 false (fun K => oQ true .eql 33 t14 (.pointer none) w R K) w fun t15 w =>
 pick t11 (.bool true) t15 w fun t16 w =>
 cond t16 (R (.returned (.bool false)) w)
 (bi ((Instr.buildSlice 24 6 #[(0, (Z.u 245)), (1, (Z.u 195)), (2, (Z.u 17)), (3, (Z.u 64)), (4, (Z.u 67)), (5, (Z.u 193))]).run Tryz.prog w) R fun t18 w =>
 oC 27 #[t8, t18] w R fun t19 w =>
 oA 66 w R fun t3 w =>
 oS 66 t3 t19 w R fun _ w =>
 oQ true .eql 25 t9 (Z.i 0) w R fun t21 w =>
 gd t21 true (fun K => oF 66 t3 1 w R K) w fun t23 w =>
 gd t21 true (fun K => oL 4 t23 w R K) w fun t24 w =>
 pick t21 t24 (.bool false) w fun t25 w =>
 gd t25 true (fun K => K t8 w) w fun t27 w =>
 gd t25 true (fun K => oC 13 #[t27] w R K) w fun t28 w =>
 gd t25 true (fun K => oC 31 #[t28, (Z.i 3)] w R K) w fun t29 w =>
 gd t25 true (fun K => bi ((Instr.field 37 t29 0).run Tryz.prog w) R K) w fun t30 w =>
 gd t25 true (fun K => oQ true .eql 5 t30 (Z.u 193) w R K) w fun t31 w =>
 pick t25 t31 (.bool false) w fun t32 w =>
 gd t32 true (fun K => K t8 w) w fun t34 w =>
 gd t32 true (fun K => oC 13 #[t34] w R K) w fun t35 w =>
 gd t32 true (fun K => oC 61 #[t35] w R K) w fun t36 w =>
 gd t32 true (fun K => oU t36 w R K) w fun t37 w =>
 pick t32 t37 (.bool false) w fun t38 w =>
 R (.returned t38) w)
theorem F25.calls {R w} : F25 R w → oX 25 #[] w R := Z.k (args := []) [0,1,2,3,16]
def F26 (a0 a1 : Value) : Prop :=
 oB 66 a1 w R fun t3 w =>
 oG 66 t3 1 4 w R fun t5 w =>
 cond t5 (cu a0 w fun t7 w =>
 oF 95 t7 1 w R fun t8 w =>
 oC 63 #[t8] w R fun t9 w =>
 cu a0 w fun t12 w =>
 oF 95 t12 2 w R fun t13 w =>
 oS 4 t13 (.bool false) w R fun _ w =>
 cu a0 w fun t14 w =>
 oF 95 t14 3 w R fun t15 w =>
 oS 5 t15 (Z.u 96) w R fun _ w =>
 R (.returned (.tuple #[])) w)
 (R (.returned (.tuple #[])) w)
theorem F26.calls {R w a0 a1} : F26 R w a0 a1 → oX 26 #[a0, a1] w R := Z.k [0,1,3,5]
def F27 (a0 a1 : Value) : Prop :=
 oA 66 w R fun t4 w =>
 oC 64 #[a1] w R fun t9 w =>
 oE t9 0 w R fun t10 w =>
 oE t9 1 w R fun t11 w =>
 oA 124 w R fun t5 w =>
 oS 124 t5 t10 w R fun _ w =>
 oQ true .neq 25 t11 (Z.i 0) w R fun t13 w =>
 cond t13 (oD 66 #[(3, t11)] w R fun t15 w =>
 oS 66 t4 t15 w R fun _ w =>
 iY ((Instr.loadAt 66 t4).run Tryz.prog w) w fun r0 =>
 R (.returned r0) w)
 (oL 124 t5 w R fun t17 w =>
 oC 65 #[a0, t17] w R fun t18 w =>
 oS 66 t4 t18 w R fun _ w =>
 iY ((Instr.loadAt 66 t4).run Tryz.prog w) w fun r0 =>
 R (.returned r0) w)
theorem F27.calls {R w a0 a1} : F27 R w a0 a1 → oX 27 #[a0, a1] w R := Z.k [0,1,4,5,6,13]
def F47 (a0 : Value) : Prop :=
 cu a0 w fun t4 w =>
 oG 93 t4 0 3 w R fun t6 w =>
 oQ true .neq 3 t6 (Z.i 3) w R fun t7 w =>
 cond t7 (R (.returned (.bool false)) w)
 (oC 17 #[a0] w R fun t9 w =>
 R (.returned (.bool true)) w)
theorem F47.calls {R w a0} : F47 R w a0 → oX 47 #[a0] w R := Z.k [0,2,7]
def F63 (a0 : Value) : Prop :=
 cu a0 w fun t4 w =>
 oG 93 t4 0 3 w R fun t6 w =>
 oQ true .neq 3 t6 (Z.i 3) w R fun t7 w =>
 gd t7 true (fun K => K a0 w) w fun t9 w =>
 gd t7 true (fun K => cu t9 w K) w fun t10 w =>
 gd t7 true (fun K => oF 93 t10 0 w R K) w fun t11 w =>
 gd t7 true (fun K => oL 3 t11 w R K) w fun t12 w =>
 gd t7 true (fun K => oQ true .neq 3 t12 (Z.i 2) w R K) w fun t13 w =>
 pick t7 t13 (.bool false) w fun t14 w =>
 cond t14 (R (.returned (.bool false)) w)
 (oC 17 #[a0] w R fun t16 w =>
 R (.returned (.bool true)) w)
theorem F63.calls {R w a0} : F63 R w a0 → oX 63 #[a0] w R := Z.k [0,2,14]
def V3 (a0 : Value) : Prop :=
 oA 124 w R fun t2 w =>
 oN 24 a0 w R fun t8 w =>
 oQ true .eql 3 t8 (Z.i 0) w R fun t9 w =>
 cond t9 (oD 124 #[] w R fun t10 w =>
 oS 124 t2 t10 w R fun _ w =>
 iY ((Instr.loadAt 124 t2).run Tryz.prog w) w fun r0 =>
 R (.returned (.tuple #[r0, (Z.i 30)])) w)
 (oI 24 a0 (Z.i 0) w R fun t13 w =>
 oL 5 t13 w R fun t14 w =>
 oC 102 #[t14] w R fun t15 w =>
 oE t15 0 w R fun t16 w =>
 oE t15 1 w R fun t17 w =>
 oA 158 w R fun t4 w =>
 oS 158 t4 t16 w R fun _ w =>
 oG 158 t4 0 5 w R fun t19 w =>
 oD 124 #[(0, t19)] w R fun t20 w =>
 oA 124 w R fun t6 w =>
 oS 124 t6 t20 w R fun _ w =>
 join (upd (upd (upd (upd (upd (upd (ini [a0]) 2 t2) 3 (Z.i 0)) 9 t9) 4 t4) 5 t17) 6 t6) (fun j1 =>
 oU t17 w R fun t23 w =>
 cond t23 (oD 124 #[] w R fun t24 w =>
 oS 124 t2 t24 w R fun _ w =>
 iY ((Instr.loadAt 124 t2).run Tryz.prog w) w fun r0 =>
 R (.returned (.tuple #[r0, (Z.i 30)])) w)
 (oG 158 t4 0 5 w R fun t27 w =>
 oC 103 #[t27] w R fun t28 w =>
 gd t28 true (fun K => K a0 w) w fun t30 w =>
 gd t28 true (fun K => oN 24 t30 w R K) w fun t31 w =>
 gd t28 true (fun K => oP .lss 3 t31 (Z.i 2) w R K) w fun t32 w =>
 pick t28 t32 (.bool false) w fun t33 w =>
 cond t33 (oD 124 #[] w R fun t34 w =>
 oS 124 t2 t34 w R fun _ w =>
 iY ((Instr.loadAt 124 t2).run Tryz.prog w) w fun r0 =>
 R (.returned (.tuple #[r0, (Z.i 20)])) w)
 (oG 158 t4 0 5 w R fun t37 w =>
 oC 103 #[t37] w R fun t38 w =>
 cond t38 (oI 24 a0 (Z.i 1) w R fun t40 w =>
 oL 5 t40 w R fun t41 w =>
 oF 124 t6 1 w R fun t42 w =>
 oS 5 t42 t41 w R fun _ w =>
 bi ((Instr.sliceAt 24 a0 (some (Z.i 2)) none none).run Tryz.prog w) R fun t45 w =>
 oC 104 #[t45] w R fun t46 w =>
 oE t46 0 w R fun t47 w =>
 oE t46 1 w R fun t48 w =>
 oE t46 2 w R fun t49 w =>
 oF 124 t6 2 w R fun t50 w =>
 oS 121 t50 t47 w R fun _ w =>
 oF 124 t6 3 w R fun t51 w =>
 oS 25 t51 t49 w R fun _ w =>
 j1 (upd (upd (upd (upd (upd (upd (upd (upd (upd (ini [a0]) 2 t2) 3 (Z.i 0)) 9 t9) 4 t4) 5 t17) 6 t6) 21 t23) 25 t33) 35 t38) w)
 (oG 158 t4 0 5 w R fun t54 w =>
 oQ true .eql 5 t54 (Z.u 243) w R fun t55 w =>
 cond t55 (bi ((Instr.sliceAt 24 a0 (some (Z.i 1)) none none).run Tryz.prog w) R fun t58 w =>
 oC 105 #[t58] w R fun t59 w =>
 oE t59 0 w R fun t60 w =>
 oE t59 1 w R fun t61 w =>
 oF 124 t6 4 w R fun t62 w =>
 oS 122 t62 t60 w R fun _ w =>
 oF 124 t6 3 w R fun t63 w =>
 oS 25 t63 t61 w R fun _ w =>
 j1 (upd (upd (upd (upd (upd (upd (upd (upd (upd (upd (ini [a0]) 2 t2) 3 (Z.i 0)) 9 t9) 4 t4) 5 t17) 6 t6) 21 t23) 25 t33) 35 t38) 52 t55) w)
 (j1 (upd (upd (upd (upd (upd (upd (upd (upd (upd (upd (ini [a0]) 2 t2) 3 (Z.i 0)) 9 t9) 4 t4) 5 t17) 6 t6) 21 t23) 25 t33) 35 t38) 52 t55) w))))) fun e1 g1 w =>
 oL 124 t6 w R fun t64 w =>
 oS 124 t2 t64 w R fun _ w =>
 iY ((Instr.loadAt 124 t2).run Tryz.prog w) w fun r0 =>
 R (.returned (.tuple #[r0, (Z.i 0)])) w)
theorem V3.calls {R w a0} : V3 R w a0 → oX 64 #[a0] w R := Z.k [0,2,3,4,5,6,9,21,25,35,52]
def Wx (a0 a1 : Value) : Prop :=
 oB 124 a1 w R fun t3 w =>
 oA 66 w R fun t4 w =>
 oG 124 t3 0 5 w R fun t6 w =>
 oQ true .eql 5 t6 (Z.u 241) w R fun t8 w =>
 cond t8 (join (upd (upd (upd (upd (ini [a0, a1]) 3 t3) 4 t4) 6 t6) 7 t8) (fun j1 =>
 oG 124 t3 1 5 w R fun t10 w =>
 oC 106 #[t10] w R fun t11 w =>
 cond t11 (cu a0 w fun t13 w =>
 oG 89 t13 2 33 w R fun t15 w =>
 oC 107 #[t15] w R fun t16 w =>
 j1 (upd (upd (upd (upd (upd (ini [a0, a1]) 3 t3) 4 t4) 6 t6) 7 t8) 11 t11) w)
 (j1 (upd (upd (upd (upd (upd (ini [a0, a1]) 3 t3) 4 t4) 6 t6) 7 t8) 11 t11) w)) fun e1 g1 w =>
 drawn w fun T w =>
 bF T w (fun w K => oL 124 t3 w aW K) fun t18 =>
 bF T w (fun w K => cu a0 w K) fun t20 =>
 qG T w 89 t20 2 33 fun t22 =>
 bF T w (fun w K => oC 24 #[t22] w aW K) fun t23 =>
 ext w fun w =>
 oC 108 #[a0, t18, t23] w R fun t24 w =>
 ext w fun w =>
 oS 66 t4 t24 w R fun _ w =>
 ext w fun w =>
 iY ((Instr.loadAt 66 t4).run Tryz.prog w) w fun r0 =>
 R (.returned r0) w)
 (oQ true .eql 5 t6 (Z.u 245) w R fun t26 w =>
 cond t26 (oL 124 t3 w R fun t28 w =>
 oC 109 #[a0, t28, (Z.i 0)] w R fun t29 w =>
 oS 66 t4 t29 w R fun _ w =>
 iY ((Instr.loadAt 66 t4).run Tryz.prog w) w fun r0 =>
 R (.returned r0) w)
 (oQ true .eql 5 t6 (Z.u 126) w R fun t31 w =>
 cond t31 (oL 124 t3 w R fun t33 w =>
 oC 109 #[a0, t33, (Z.i 1)] w R fun t34 w =>
 oS 66 t4 t34 w R fun _ w =>
 iY ((Instr.loadAt 66 t4).run Tryz.prog w) w fun r0 =>
 R (.returned r0) w)
 (oQ true .eql 5 t6 (Z.u 111) w R fun t36 w =>
 cond t36 (cu a0 w fun t38 w =>
 oG 89 t38 2 33 w R fun t40 w =>
 oC 90 #[t40] w R fun t41 w =>
 oD 66 #[(1, (.bool true))] w R fun t42 w =>
 oS 66 t4 t42 w R fun _ w =>
 iY ((Instr.loadAt 66 t4).run Tryz.prog w) w fun r0 =>
 R (.returned r0) w)
 (join (upd (upd (upd (upd (upd (upd (upd (ini [a0, a1]) 3 t3) 4 t4) 6 t6) 7 t8) 25 t26) 30 t31) 35 t36) (fun j2 =>
 oQ true .eql 5 t6 (Z.u 242) w R fun t44 w =>
 cond t44 (j2 (upd (upd (upd (upd (upd (upd (upd (upd (ini [a0, a1]) 3 t3) 4 t4) 6 t6) 7 t8) 25 t26) 30 t31) 35 t36) 43 t44) w)
 (oQ true .eql 5 t6 (Z.u 246) w R fun t45 w =>
 cond t45 (j2 (upd (upd (upd (upd (upd (upd (upd (upd (upd (ini [a0, a1]) 3 t3) 4 t4) 6 t6) 7 t8) 25 t26) 30 t31) 35 t36) 43 t44) 43 t45) w)
 (oQ true .eql 5 t6 (Z.u 110) w R fun t46 w =>
 j2 (upd (upd (upd (upd (upd (upd (upd (upd (upd (upd (ini [a0, a1]) 3 t3) 4 t4) 6 t6) 7 t8) 25 t26) 30 t31) 35 t36) 43 t44) 43 t45) 43 t46) w))) fun e2 g2 w =>
 cond (g2 43) (oG 124 t3 0 5 w R fun t48 w =>
 oD 66 #[(0, t48)] w R fun t49 w =>
 oS 66 t4 t49 w R fun _ w =>
 iY ((Instr.loadAt 66 t4).run Tryz.prog w) w fun r0 =>
 R (.returned r0) w)
 (oQ true .eql 5 t6 (Z.u 243) w R fun t51 w =>
 cond t51 (oL 124 t3 w R fun t53 w =>
 oC 110 #[a0, t53] w R fun t54 w =>
 oS 66 t4 t54 w R fun _ w =>
 iY ((Instr.loadAt 66 t4).run Tryz.prog w) w fun r0 =>
 R (.returned r0) w)
 (oD 66 #[(3, (Z.i 30))] w R fun t55 w =>
 oS 66 t4 t55 w R fun _ w =>
 iY ((Instr.loadAt 66 t4).run Tryz.prog w) w fun r0 =>
 R (.returned r0) w))))))
theorem Wx.calls {R w a0 a1} : Wx R w a0 a1 → oX 65 #[a0, a1] w R := Z.k [0,1,3,4,6,7,11,25,30,35,43,50]
def F72 (a0 : Value) : Prop :=
 oB 33 a0 w R fun t1 w =>
 drawn w fun T w =>
 bF T w (fun w K => oL 33 t1 w aW K) fun t5 =>
 bF T w (fun w K => oL 33 t1 w aW K) fun t6 =>
 bF T w (fun w K => oC 24 #[t6] w aW K) fun t7 =>
 ext w fun w =>
 oC 120 #[t5, t7] w R fun t8 w =>
 ext w fun w =>
 bi ((Instr.makeFunc (.func 122) #[] #[t1]).run Tryz.prog w) R fun t10 w =>
 oC 121 #[t8, t10] w R fun t11 w =>
 oP .lss 3 t11 (Z.i 0) w R fun t13 w =>
 cond t13 (R (.returned (Z.i 43)) w)
 (join (upd (upd (upd (upd (upd (ini [a0]) 1 t1) 2 (Z.i 0)) 3 t8) 4 t11) 13 t13) (fun j1 =>
 loop (upd (upd (upd (upd (upd (ini [a0]) 1 t1) 2 (Z.i 0)) 3 t8) 4 t11) 13 t13) w fun e2 g2 w j2 =>
 oP .gtr 3 (g2 4) (Z.i 0) w R fun t15 w =>
 cond t15 (drawn w fun T w =>
 bF T w (fun w K => oL 33 t1 w aW K) fun t18 =>
 bF T w (fun w K => oI 176 t8 (g2 4) w aW K) fun t21 =>
 bF T w (fun w K => oL 3 t21 w aW K) fun t22 =>
 bF T w (fun w K => oL 33 t1 w aW K) fun t23 =>
 bF T w (fun w K => oP .sub 3 (g2 4) (Z.i 1) w aW K) fun t26 =>
 bF T w (fun w K => oI 176 t8 t26 w aW K) fun t27 =>
 bF T w (fun w K => oL 3 t27 w aW K) fun t28 =>
 bF T w (fun w K => oC 31 #[t23, t28] w aW K) fun t29 =>
 ext w fun w =>
 oC 14 #[t18, t22, t29] w R fun t30 w =>
 ext w fun w =>
 oP .sub 3 (g2 4) (Z.i 1) w R fun t17 w =>
 j2 (upd (upd (mix [15,4] g2 e2) 15 t15) 4 t17) w)
 (j1 (upd (mix [15,4] g2 e2) 15 t15) w)) fun e1 g1 w =>
 R (.returned (Z.i 0)) w)
theorem F72.calls {R w a0} : F72 R w a0 → oX 72 #[a0] w R := Z.k [0,1,2,3,4,13,15]
def F84 (a0 : Value) : Prop :=
 oC 24 #[a0] w R fun t6 w =>
 oC 130 #[a0, t6, (Z.i 1)] w R fun t7 w =>
 oC 124 #[a0, t7] w R fun t8 w =>
 R (.returned t8) w
theorem F84.calls {R w a0} : F84 R w a0 → oX 84 #[a0] w R := Z.k [0,2]
def F85 (a0 : Value) : Prop :=
 oC 24 #[a0] w R fun t7 w =>
 oC 116 #[a0, t7] w R fun t11 w =>
 oE t11 0 w R fun t12 w =>
 oE t11 1 w R fun t13 w =>
 oA 173 w R fun t4 w =>
 oS 173 t4 t12 w R fun _ w =>
 gd t13 true (fun K => K a0 w) w fun t16 w =>
 gd t13 true (fun K => oF 173 t4 0 w R K) w fun t17 w =>
 gd t13 true (fun K => oL 3 t17 w R K) w fun t18 w =>
 gd t13 true (fun K => oC 131 #[t16, t18] w R K) w fun t19 w =>
 pick t13 t19 (.bool false) w fun t20 w =>
 gd t20 true (fun K => K t7 w) w fun t22 w =>
 gd t20 true (fun K => oF 173 t4 0 w R K) w fun t23 w =>
 gd t20 true (fun K => oL 3 t23 w R K) w fun t24 w =>
 gd t20 true (fun K => oQ false .neq 3 t22 t24 w R K) w fun t25 w =>
 pick t20 t25 (.bool false) w fun t26 w =>
 gd t26 true (fun K => K t7 w) w fun t28 w =>
 gd t26 true (fun K => K a0 w) w fun t29 w =>
 gd t26 true (fun K => oF 173 t4 0 w R K) w fun t30 w =>
 gd t26 true (fun K => oL 3 t30 w R K) w fun t31 w =>
 gd t26 true (fun K => oC 125 #[t29, t31, (Z.i 1)] w R K) w fun t32 w =>
 gd t26 true (fun K => oQ false .neq 3 t28 t32 w R K) w fun t33 w =>
 pick t26 t33 (.bool false) w fun t34 w =>
 cond t34 (oG 173 t4 0 3 w R fun t38 w =>
 oC 125 #[a0, t38, (Z.i 1)] w R fun t39 w =>
 oC 124 #[a0, t39] w R fun t40 w =>
 R (.returned t40) w)
 (oC 125 #[a0, t7, (Z.i (-2))] w R fun t45 w =>
 oC 130 #[a0, t45, (Z.i (-1))] w R fun t46 w =>
 oC 124 #[a0, t46] w R fun t47 w =>
 R (.returned t47) w)
theorem F85.calls {R w a0} : F85 R w a0 → oX 85 #[a0] w R := Z.k [0,2,3,4,5,34]
def F86 (a0 : Value) : Prop :=
 oC 112 #[a0] w R fun t11 w =>
 oC 24 #[a0] w R fun t13 w =>
 oC 132 #[t11, t13] w R fun t14 w =>
 oE t14 0 w R fun t15 w =>
 oE t14 1 w R fun t16 w =>
 oE t14 2 w R fun t17 w =>
 oP .add 3 t15 (Z.i 1) w R fun t20 w =>
 oC 112 #[a0] w R fun t22 w =>
 bi ((Instr.field 32 t22 1).run Tryz.prog w) R fun t23 w =>
 oP .mul 3 t20 t23 w R fun t24 w =>
 oC 125 #[a0, (Z.i 0), t24] w R fun t25 w =>
 join (upd (upd (upd (ini [a0]) 2 (Z.i 0)) 3 t15) 6 t25) (fun j1 =>
 oC 30 #[a0] w R fun t27 w =>
 loop (upd (upd (upd (upd (upd (ini [a0]) 2 (Z.i 0)) 3 t15) 6 t25) 27 t27) 28 (Z.i 0)) w fun e2 g2 w j2 =>
 oP .lss 3 (g2 28) t27 w R fun t29 w =>
 cond t29 (oC 125 #[a0, t25, (g2 28)] w R fun t34 w =>
 oC 117 #[a0, t34] w R fun t37 w =>
 cond t37 (oC 124 #[a0, t34] w R fun t40 w =>
 R (.returned t40) w)
 (oP .add 3 (g2 28) (Z.i 1) w R fun t41 w =>
 j2 (upd (upd (upd (upd (upd (mix [29,7,8,37,2,28] g2 e2) 29 t29) 7 (g2 28)) 8 t34) 37 t37) 28 t41) w))
 (j1 (upd (mix [29,7,8,37,2,28] g2 e2) 29 t29) w)) fun e1 g1 w =>
 oC 124 #[a0, (Z.i 0)] w R fun t43 w =>
 R (.returned t43) w
theorem F86.calls {R w a0} : F86 R w a0 → oX 86 #[a0] w R := Z.k [0,2,3,6,7,8,27,28,29,37]
def F88 (a0 a1 a2 : Value) : Prop :=
 oC 112 #[a0] w R fun t9 w =>
 oA 32 w R fun t7 w =>
 oS 32 t7 t9 w R fun _ w =>
 drawn w fun T w =>
 bF T w (fun w K => oC 24 #[a0] w aW K) fun t14 =>
 qG T w 32 t7 0 3 fun t17 =>
 bF T w (fun w K => oP .rem 3 a1 t17 w aW K) fun t18 =>
 qG T w 32 t7 1 3 fun t20 =>
 bF T w (fun w K => oP .mul 3 t18 t20 w aW K) fun t21 =>
 bF T w (fun w K => oC 125 #[a0, t14, t21] w aW K) fun t22 =>
 bF T w (fun w K => oC 125 #[a0, t22, a2] w aW K) fun t24 =>
 ext w fun w =>
 oC 124 #[a0, t24] w R fun t25 w =>
 ext w fun w =>
 R (.returned t25) w
theorem F88.calls {R w a0 a1 a2} : F88 R w a0 a1 a2 → oX 88 #[a0, a1, a2] w R := Z.k [0,1,2,6,7]
def F89 (a0 : Value) : Prop :=
 oC 24 #[a0] w R fun t8 w =>
 oC 134 #[a0, t8] w R fun t9 w =>
 oE t9 0 w R fun t10 w =>
 oE t9 1 w R fun t11 w =>
 oU t11 w R fun t13 w =>
 cond t13 (R (.returned (Z.i 41)) w)
 (R (.returned (Z.i 0)) w)
theorem F89.calls {R w a0} : F89 R w a0 → oX 89 #[a0] w R := Z.k [0,2,4,13]
def Wh (a0 : Value) : Prop :=
 bi ((Instr.box 33 a0).run Tryz.prog w) (fP R) fun t1 w =>
 join (upd (upd (upd (ini [a0]) 1 t1) 2 (Z.i 0)) 3 (Z.i 0)) (fun j1 =>
 bi ((Instr.loadAt 33 t1).run Tryz.prog w) (fP R) fun t7 w =>
 kF Tryz.prog 30 #[t7] w (fP R) fun t8 w =>
 loop (upd (upd (upd (upd (upd (ini [a0]) 1 t1) 2 (Z.i 0)) 3 (Z.i 0)) 8 t8) 9 (Z.i 0)) w fun e2 g2 w j2 =>
 bi ((binOp .lss 3 (g2 9) t8).run Tryz.prog w) (fP R) fun t10 w =>
 cond t10 (join (upd (mix [10,4,14,3,9] g2 e2) 10 t10) (fun j3 =>
 bi ((Instr.loadAt 33 t1).run Tryz.prog w) (fP R) fun t12 w =>
 kF Tryz.prog 117 #[t12, (g2 9)] w (fP R) fun t14 w =>
 cond t14 (bi ((Instr.loadAt 33 t1).run Tryz.prog w) (fP R) fun t15 w =>
 bi ((Instr.build 37 #[]).run Tryz.prog w) (fP R) fun t17 w =>
 kF Tryz.prog 14 #[t15, (g2 9), t17] w (fP R) fun t18 w =>
 bi ((binOp .add 3 (g2 3) (Z.i 1)).run Tryz.prog w) (fP R) fun t20 w =>
 j3 (upd (upd (upd (upd (mix [10,4,14,3,9] g2 e2) 10 t10) 4 (g2 9)) 14 t14) 3 t20) w)
 (j3 (upd (upd (upd (mix [10,4,14,3,9] g2 e2) 10 t10) 4 (g2 9)) 14 t14) w)) fun e3 g3 w =>
 bi ((binOp .add 3 (g2 9) (Z.i 1)).run Tryz.prog w) (fP R) fun t21 w =>
 j2 (upd (mix [4,14,3] g3 e3) 9 t21) w)
 (j1 (upd (mix [10,4,14,3,9] g2 e2) 10 t10) w)) fun e1 g1 w =>
 join (mix [8,10,4,14,3,9] g1 e1) (fun j4 =>
 bi ((Instr.loadAt 33 t1).run Tryz.prog w) (fP R) fun t22 w =>
 kF Tryz.prog 135 #[t22] w (fP R) fun t23 w =>
 vF Tryz.prog t23 1 w (fun l5 xs5 w mid5 fin5 =>
 oA 173 w aW fun t5 w =>
 oS 173 t5 (xs5.getD 0 undef) w aW fun _ w =>
 mid5 (fun w => oF 173 t5 2 w aW fun t25 w =>
 oL 5 t25 w aW fun t26 w =>
 oC 136 #[t26] w aW fun t27 w =>
 cond t27 (fin5 .normal w)
 (oL 33 t1 w aW fun t28 w =>
 oF 173 t5 0 w aW fun t29 w =>
 oL 3 t29 w aW fun t30 w =>
 oC 31 #[t28, t30] w aW fun t31 w =>
 oA 37 w aW fun t6 w =>
 oS 37 t6 t31 w aW fun _ w =>
 oF 37 t6 0 w aW fun t32 w =>
 oL 5 t32 w aW fun t33 w =>
 oC 137 #[t33, (.bool false)] w aW fun t34 w =>
 oF 37 t6 0 w aW fun t35 w =>
 oS 5 t35 t34 w aW fun _ w =>
 oL 33 t1 w aW fun t36 w =>
 oF 173 t5 0 w aW fun t37 w =>
 oL 3 t37 w aW fun t38 w =>
 oL 37 t6 w aW fun t39 w =>
 oC 14 #[t36, t38, t39] w aW fun t40 w =>
 fin5 .normal w)) w)
 (fun D w => j4 (upd (upd (mix [8,10,4,14,3,9] g1 e1) 23 t23) 1000000 (mkV D undef)) w)
 []) fun e4 g4 w =>
 drawn w fun T w =>
 bF T w (fun w K => oL 33 t1 w aW K) fun t41 =>
 bF T w (fun w K => oL 33 t1 w aW K) fun t42 =>
 bF T w (fun w K => oC 133 #[t42] w aW K) fun t43 =>
 ext w fun w =>
 kF Tryz.prog 36 #[t41, t43] w (fP R) fun t44 w =>
 ext w fun w =>
 lQ (xE (g4 1000000)) w fun w => R (.returned (g1 3)) w
theorem Wh.calls {R w a0} : Wh R w a0 → oX 90 #[a0] w R := Z.k [0,1,2,3,4,5,6,8,9,10,14,23,24,27]
def F91 (a0 : Value) : Prop :=
 oC 24 #[a0] w R fun t7 w =>
 oC 117 #[a0, t7] w R fun t10 w =>
 oU t10 w R fun t11 w =>
 cond t11 (R (.returned (Z.i 41)) w)
 (oC 120 #[a0, t7] w R fun t14 w =>
 join (upd (upd (upd (upd (ini [a0]) 2 (Z.i 0)) 3 t7) 11 t11) 4 t14) (fun j1 =>
 oN 176 t14 w R fun t16 w =>
 oP .sub 3 t16 (Z.i 1) w R fun t17 w =>
 loop (upd (upd (upd (upd (upd (upd (ini [a0]) 2 (Z.i 0)) 3 t7) 11 t11) 4 t14) 17 t17) 18 (Z.i 0)) w fun e2 g2 w j2 =>
 oP .lss 3 (g2 18) t17 w R fun t19 w =>
 cond t19 (drawn w fun T w =>
 bF T w (fun w K => oI 176 t14 (g2 18) w aW K) fun t24 =>
 bF T w (fun w K => oL 3 t24 w aW K) fun t25 =>
 bF T w (fun w K => oP .add 3 (g2 18) (Z.i 1) w aW K) fun t29 =>
 bF T w (fun w K => oI 176 t14 t29 w aW K) fun t30 =>
 bF T w (fun w K => oL 3 t30 w aW K) fun t31 =>
 bF T w (fun w K => oC 31 #[a0, t31] w aW K) fun t32 =>
 ext w fun w =>
 oC 14 #[a0, t25, t32] w R fun t33 w =>
 ext w fun w =>
 oP .add 3 (g2 18) (Z.i 1) w R fun t34 w =>
 j2 (upd (upd (upd (mix [19,5,18] g2 e2) 19 t19) 5 (g2 18)) 18 t34) w)
 (j1 (upd (mix [19,5,18] g2 e2) 19 t19) w)) fun e1 g1 w =>
 oN 176 t14 w R fun t38 w =>
 oP .sub 3 t38 (Z.i 1) w R fun t39 w =>
 oI 176 t14 t39 w R fun t40 w =>
 oL 3 t40 w R fun t41 w =>
 oD 37 #[] w R fun t42 w =>
 oC 14 #[a0, t41, t42] w R fun t43 w =>
 oC 73 #[a0, t7] w R fun t46 w =>
 R (.returned (Z.i 0)) w)
theorem F91.calls {R w a0} : F91 R w a0 → oX 91 #[a0] w R := Z.k [0,2,3,4,5,11,17,18,19]
def F92 (a0 a1 : Value) : Prop :=
 oC 24 #[a0] w R fun t8 w =>
 oC 37 #[a0, (Z.u 28), a1] w R fun t11 w =>
 oQ true .neq 25 t11 (Z.i 0) w R fun t13 w =>
 cond t13 (R (.returned t11) w)
 (oC 36 #[a0, t8] w R fun t17 w =>
 oC 84 #[a0] w R fun t19 w =>
 R (.returned (Z.i 0)) w)
theorem F92.calls {R w a0 a1} : F92 R w a0 a1 → oX 92 #[a0, a1] w R := Z.k [0,1,4,5,6,13]
def F93 (a0 a1 : Value) : Prop :=
 oC 37 #[a0, (Z.u 30), a1] w R fun t7 w =>
 R (.returned t7) w
theorem F93.calls {R w a0 a1} : F93 R w a0 a1 → oX 93 #[a0, a1] w R := Z.k [0,1,4]
def XG (a0 : Value) : Prop :=
 oA 158 w R fun t2 w =>
 join (upd (upd (ini [a0]) 2 t2) 3 (.bool false)) (fun j1 =>
 oC 145 #[] w R fun t6 w =>
 oN 200 t6 w R fun t7 w =>
 loop (upd (upd (upd (upd (upd (ini [a0]) 2 t2) 3 (.bool false)) 6 t6) 7 t7) 8 (Z.i 0)) w fun e2 g2 w j2 =>
 oP .lss 3 (g2 8) t7 w R fun t9 w =>
 cond t9 (oI 200 t6 (g2 8) w R fun t10 w =>
 oL 158 t10 w R fun t11 w =>
 oA 158 w R fun t5 w =>
 oS 158 t5 t11 w R fun _ w =>
 oG 158 t5 0 5 w R fun t13 w =>
 oQ false .eql 5 t13 a0 w R fun t15 w =>
 gd t15 false (fun K => oF 158 t5 1 w R K) w fun t17 w =>
 gd t15 false (fun K => oL 5 t17 w R K) w fun t18 w =>
 gd t15 false (fun K => K a0 w) w fun t19 w =>
 gd t15 false (fun K => oQ false .eql 5 t18 t19 w R K) w fun t20 w =>
 pick t15 (.bool true) t20 w fun t21 w =>
 cond t21 (oL 158 t5 w R fun t22 w =>
 oS 158 t2 t22 w R fun _ w =>
 iY ((Instr.loadAt 158 t2).run Tryz.prog w) w fun r0 =>
 R (.returned (.tuple #[r0, (.bool true)])) w)
 (oP .add 3 (g2 8) (Z.i 1) w R fun t23 w =>
 j2 (upd (upd (upd (upd (mix [9,5,21,3,8] g2 e2) 9 t9) 5 t5) 21 t21) 8 t23) w))
 (j1 (upd (mix [9,5,21,3,8] g2 e2) 9 t9) w)) fun e1 g1 w =>
 oD 158 #[] w R fun t24 w =>
 oS 158 t2 t24 w R fun _ w =>
 iY ((Instr.loadAt 158 t2).run Tryz.prog w) w fun r0 =>
 R (.returned (.tuple #[r0, (.bool false)])) w
theorem XG.calls {R w a0} : XG R w a0 → oX 102 #[a0] w R := Z.k [0,2,3,5,6,7,8,9,21]
def Xz (a0 : Value) : Prop :=
 oQ true .eql 5 a0 (Z.u 241) w R fun t4 w =>
 gd t4 false (fun K => K a0 w) w fun t6 w =>
 gd t4 false (fun K => oQ true .eql 5 t6 (Z.u 245) w R K) w fun t7 w =>
 pick t4 (.bool true) t7 w fun t8 w =>
 gd t8 false (fun K => K a0 w) w fun t10 w =>
 gd t8 false (fun K => oQ true .eql 5 t10 (Z.u 126) w R K) w fun t11 w =>
 pick t8 (.bool true) t11 w fun t12 w =>
 R (.returned t12) w
theorem Xz.calls {R w a0} : Xz R w a0 → oX 103 #[a0] w R := Z.k [0,2]
def XP (a0 : Value) : Prop :=
 join (upd (upd (upd (ini [a0]) 2 (.slice none 0 0)) 3 (Z.i 0)) 4 (.slice none 0 0)) (fun j1 =>
 loop (upd (upd (upd (ini [a0]) 2 (.slice none 0 0)) 3 (Z.i 0)) 4 (.slice none 0 0)) w fun e2 g2 w j2 =>
 oN 24 (g2 0) w R fun t11 w =>
 oP .gtr 3 t11 (Z.i 0) w R fun t12 w =>
 cond t12 (oC 148 #[(g2 0)] w R fun t15 w =>
 oE t15 0 w R fun t16 w =>
 oE t15 1 w R fun t17 w =>
 oE t15 2 w R fun t18 w =>
 oQ true .neq 25 t18 (Z.i 0) w R fun t20 w =>
 cond t20 (R (.returned (.tuple #[(g2 4), t18])) w)
 (oC 149 #[t16] w R fun t25 w =>
 oE t25 0 w R fun t26 w =>
 oE t25 1 w R fun t27 w =>
 oA 214 w R fun t8 w =>
 oS 214 t8 t26 w R fun _ w =>
 oU t27 w R fun t29 w =>
 cond t29 (R (.returned (.tuple #[(g2 4), (Z.i 34)])) w)
 (oL 214 t8 w R fun t32 w =>
 bi ((Instr.buildSlice 122 1 #[(0, t32)]).run Tryz.prog w) R fun t33 w =>
 bi ((Builtin.append_ #[122, 122] 122 #[(g2 4), t33]).run Tryz.prog w) R fun t34 w =>
 j2 (upd (upd (upd (upd (upd (upd (upd (upd (upd (upd (mix [12,5,6,7,20,8,9,29,2,3,4,0] g2 e2) 12 t12) 5 t16) 6 t17) 7 t18) 20 t20) 8 t8) 9 t27) 29 t29) 4 t34) 0 t17) w)))
 (j1 (upd (mix [12,5,6,7,20,8,9,29,2,3,4,0] g2 e2) 12 t12) w)) fun e1 g1 w =>
 R (.returned (.tuple #[(g1 4), (Z.i 0)])) w
theorem XP.calls {R w a0} : XP R w a0 → oX 105 #[a0] w R := Z.k [0,2,3,4,5,6,7,8,9,12,20,29]
def XD (a0 : Value) : Prop :=
 oP .and 5 a0 (Z.u 1) w R fun t4 w =>
 oQ true .neq 5 t4 (Z.u 0) w R fun t5 w =>
 R (.returned t5) w
theorem XD.calls {R w a0} : XD R w a0 → oX 106 #[a0] w R := Z.k [0,2]
def YP (a0 : Value) : Prop :=
 bi ((Instr.box 33 a0).run Tryz.prog w) (fP R) fun t1 w =>
 bi ((Instr.alloc 3 true (.tuple #[])).run Tryz.prog w) (fP R) fun t3 w =>
 qY ((Instr.storeAt 3 t3 (Z.i 0)).run Tryz.prog w) (fP R) fun _ w =>
 join (upd (upd (upd (ini [a0]) 1 t1) 2 (Z.i 0)) 3 t3) (fun j1 =>
 bi ((Instr.loadAt 33 t1).run Tryz.prog w) (fP R) fun t5 w =>
 kF Tryz.prog 135 #[t5] w (fP R) fun t6 w =>
 vF Tryz.prog t6 1 w (fun l2 xs2 w mid2 fin2 =>
 oA 173 w aW fun t4 w =>
 oS 173 t4 (xs2.getD 0 undef) w aW fun _ w =>
 mid2 (fun w => oF 173 t4 2 w aW fun t8 w =>
 oL 5 t8 w aW fun t9 w =>
 oC 140 #[t9] w aW fun t10 w =>
 cond t10 (oL 3 t3 w aW fun t11 w =>
 oP .add 3 t11 (Z.i 1) w aW fun t12 w =>
 oS 3 t3 t12 w aW fun _ w =>
 oL 33 t1 w aW fun t13 w =>
 oF 173 t4 0 w aW fun t14 w =>
 oL 3 t14 w aW fun t15 w =>
 oC 123 #[t13, t15, (.bool false)] w aW fun t16 w =>
 fin2 .normal w)
 (fin2 .normal w)) w)
 (fun D w => j1 (upd (upd (upd (upd (upd (ini [a0]) 1 t1) 2 (Z.i 0)) 3 t3) 6 t6) 1000000 (mkV D undef)) w)
 []) fun e1 g1 w =>
 bi ((Instr.loadAt 3 t3).run Tryz.prog w) (fP R) fun t17 w =>
 lQ (xE (g1 1000000)) w fun w => R (.returned t17) w
theorem YP.calls {R w a0} : YP R w a0 → oX 107 #[a0] w R := Z.k [0,1,2,3,4,6,7,10]
def YQ (a0 a1 a2 : Value) : Prop :=
 oB 124 a1 w R fun t4 w =>
 oA 66 w R fun t6 w =>
 drawn w fun T w =>
 bF Ext w (fun w K => cu a0 w K) fun t12 =>
 qG Ext w 89 t12 2 33 fun t14 =>
 qG Ext w 124 t4 2 121 fun t16 =>
 ext w fun w =>
 yg T w (fun w K => oC 150 #[t14, t16, a2] w R K) fun t18 w =>
 bF T w (fun w K => oE t18 0 w aW K) fun t19 =>
 bF T w (fun w K => oE t18 1 w aW K) fun t20 =>
 bF T w (fun w K => oE t18 2 w aW K) fun t21 =>
 ext w fun w =>
 join (upd (upd (upd (ini [a0, a1, a2]) 4 t4) 6 t6) 9 t21) (fun j1 =>
 oQ true .eql 25 t21 (Z.i 0) w R fun t23 w =>
 cond t23 (oG 124 t4 3 25 w R fun t25 w =>
 j1 (upd (upd (upd (upd (upd (ini [a0, a1, a2]) 4 t4) 6 t6) 9 t21) 23 t23) 9 t25) w)
 (j1 (upd (upd (upd (upd (ini [a0, a1, a2]) 4 t4) 6 t6) 9 t21) 23 t23) w)) fun e1 g1 w =>
 oQ true .neq 25 (g1 9) (Z.i 0) w R fun t27 w =>
 cond t27 (oD 66 #[(3, (g1 9))] w R fun t29 w =>
 oS 66 t6 t29 w R fun _ w =>
 iY ((Instr.loadAt 66 t6).run Tryz.prog w) w fun r0 =>
 R (.returned r0) w)
 (drawn w fun T w =>
 qG T w 124 t4 1 5 fun t31 =>
 bF T w (fun w K => oC 151 #[t31] w aW K) fun t32 =>
 qG T w 124 t4 1 5 fun t34 =>
 bF T w (fun w K => oC 152 #[t34] w aW K) fun t35 =>
 bF T w (fun w K => oD 66 #[(1, t32), (2, t35)] w aW K) fun t36 =>
 ext w fun w =>
 oS 66 t6 t36 w R fun _ w =>
 ext w fun w =>
 iY ((Instr.loadAt 66 t6).run Tryz.prog w) w fun r0 =>
 R (.returned r0) w)
theorem YQ.calls {R w a0 a1 a2} : YQ R w a0 a1 a2 → oX 108 #[a0, a1, a2] w R := Z.k [0,1,2,4,6,9,23,27]
def Oy (a0 a1 a2 : Value) : Prop :=
 oB 124 a1 w R fun t4 w =>
 oA 66 w R fun t6 w =>
 oC 82 #[a0, a2] w R fun t9 w =>
 oL 124 t4 w R fun t11 w =>
 oC 108 #[a0, t11, (Z.i 0)] w R fun t12 w =>
 oS 66 t6 t12 w R fun _ w =>
 iY ((Instr.loadAt 66 t6).run Tryz.prog w) w fun r0 =>
 R (.returned r0) w
theorem Oy.calls {R w a0 a1 a2} : Oy R w a0 a1 a2 → oX 109 #[a0, a1, a2] w R := Z.k [0,1,2,4,6]
def YR (a0 a1 : Value) : Prop :=
 oB 124 a1 w R fun t3 w =>
 oA 66 w R fun t4 w =>
 oA 66 w R fun t5 w =>
 join (upd (upd (upd (ini [a0, a1]) 3 t3) 4 t4) 5 t5) (fun j1 =>
 oG 124 t3 4 122 w R fun t10 w =>
 oN 122 t10 w R fun t11 w =>
 loop (upd (upd (upd (upd (upd (upd (ini [a0, a1]) 3 t3) 4 t4) 5 t5) 10 t10) 11 t11) 12 (Z.i 0)) w fun e2 g2 w j2 =>
 oP .lss 3 (g2 12) t11 w R fun t13 w =>
 cond t13 (oI 122 t10 (g2 12) w R fun t14 w =>
 oL 214 t14 w R fun t15 w =>
 oA 214 w R fun t7 w =>
 oS 214 t7 t15 w R fun _ w =>
 oL 214 t7 w R fun t17 w =>
 oC 153 #[a0, t17] w R fun t18 w =>
 oA 66 w R fun t8 w =>
 oS 66 t8 t18 w R fun _ w =>
 oG 66 t8 3 25 w R fun t20 w =>
 oQ true .neq 25 t20 (Z.i 0) w R fun t21 w =>
 cond t21 (oG 66 t8 3 25 w R fun t23 w =>
 oD 66 #[(3, t23)] w R fun t24 w =>
 oS 66 t4 t24 w R fun _ w =>
 iY ((Instr.loadAt 66 t4).run Tryz.prog w) w fun r0 =>
 R (.returned r0) w)
 (join (upd (upd (upd (upd (mix [13,7,8,21,27,12] g2 e2) 13 t13) 7 t7) 8 t8) 21 t21) (fun j3 =>
 oG 66 t5 0 5 w R fun t26 w =>
 oQ true .eql 5 t26 (Z.u 0) w R fun t27 w =>
 cond t27 (oG 66 t8 0 5 w R fun t29 w =>
 oF 66 t5 0 w R fun t30 w =>
 oS 5 t30 t29 w R fun _ w =>
 j3 (upd (upd (upd (upd (upd (mix [13,7,8,21,27,12] g2 e2) 13 t13) 7 t7) 8 t8) 21 t21) 27 t27) w)
 (j3 (upd (upd (upd (upd (upd (mix [13,7,8,21,27,12] g2 e2) 13 t13) 7 t7) 8 t8) 21 t21) 27 t27) w)) fun e3 g3 w =>
 drawn w fun T w =>
 qG Ext w 66 t5 1 4 fun t32 =>
 bF Ext w (fun w K => gd t32 false (fun K => oF 66 t8 1 w aW K) w K) fun t34 =>
 bF Ext w (fun w K => gd t32 false (fun K => oL 4 t34 w aW K) w K) fun t35 =>
 bF Ext w (fun w K => pick t32 (.bool true) t35 w K) fun t36 =>
 qG Ext w 66 t5 2 4 fun t38 =>
 bF T w (fun w K => gd t38 false (fun K => oF 66 t8 2 w aW K) w K) fun t40 =>
 bF T w (fun w K => gd t38 false (fun K => oL 4 t40 w aW K) w K) fun t41 =>
 bF T w (fun w K => pick t38 (.bool true) t41 w K) fun t42 =>
 bF Ext w (fun w K => oF 66 t5 1 w aW K) fun t43 =>
 ext w fun w =>
 yg T w (fun w K => oS 4 t43 t36 w R K) fun _ w =>
 bF T w (fun w K => oF 66 t5 2 w aW K) fun t44 =>
 ext w fun w =>
 oS 4 t44 t42 w R fun _ w =>
 ext w fun w =>
 oP .add 3 (g2 12) (Z.i 1) w R fun t45 w =>
 j2 (upd (mix [27] g3 e3) 12 t45) w))
 (j1 (upd (mix [13,7,8,21,27,12] g2 e2) 13 t13) w)) fun e1 g1 w =>
 oG 124 t3 3 25 w R fun t47 w =>
 oQ true .neq 25 t47 (Z.i 0) w R fun t48 w =>
 cond t48 (oG 124 t3 3 25 w R fun t50 w =>
 oD 66 #[(3, t50)] w R fun t51 w =>
 oS 66 t4 t51 w R fun _ w =>
 iY ((Instr.loadAt 66 t4).run Tryz.prog w) w fun r0 =>
 R (.returned r0) w)
 (oL 66 t5 w R fun t52 w =>
 oS 66 t4 t52 w R fun _ w =>
 iY ((Instr.loadAt 66 t4).run Tryz.prog w) w fun r0 =>
 R (.returned r0) w)
theorem YR.calls {R w a0 a1} : YR R w a0 a1 → oX 110 #[a0, a1] w R := Z.k [0,1,3,4,5,7,8,10,11,12,13,21,27,48]
def Yb (a0 : Value) : Prop :=
 oC 155 #[a0] w R fun t4 w =>
 gd t4 false (fun K => K a0 w) w fun t6 w =>
 gd t4 false (fun K => oQ true .eql 5 t6 (Z.u 75) w R K) w fun t7 w =>
 pick t4 (.bool true) t7 w fun t8 w =>
 gd t8 false (fun K => K a0 w) w fun t10 w =>
 gd t8 false (fun K => oQ true .eql 5 t10 (Z.u 96) w R K) w fun t11 w =>
 pick t8 (.bool true) t11 w fun t12 w =>
 gd t12 false (fun K => K a0 w) w fun t14 w =>
 gd t12 false (fun K => oQ true .eql 5 t14 (Z.u 28) w R K) w fun t15 w =>
 pick t12 (.bool true) t15 w fun t16 w =>
 R (.returned t16) w
theorem Yb.calls {R w a0} : Yb R w a0 → oX 119 #[a0] w R := Z.k [0,2]
def Yc (a0 a1 : Value) : Prop :=
 bi ((Instr.box 3 a1).run Tryz.prog w) (fP R) fun t3 w =>
 bi ((Instr.alloc 176 true (.tuple #[])).run Tryz.prog w) (fP R) fun t5 w =>
 bi ((Instr.loadAt 3 t3).run Tryz.prog w) (fP R) fun t12 w =>
 kF Tryz.prog 116 #[a0, t12] w (fP R) fun t13 w =>
 bi ((Instr.extract t13 0).run Tryz.prog w) (fP R) fun t14 w =>
 bi ((Instr.extract t13 1).run Tryz.prog w) (fP R) fun t15 w =>
 bi ((Instr.alloc 173 true (.tuple #[])).run Tryz.prog w) (fP R) fun t6 w =>
 qY ((Instr.storeAt 173 t6 t14).run Tryz.prog w) (fP R) fun _ w =>
 join (upd (upd (upd (upd (upd (ini [a0, a1]) 3 t3) 4 (.slice none 0 0)) 5 t5) 6 t6) 7 t15) (fun j1 =>
 bi ((Op.unary .not t15).run Tryz.prog w) (fP R) fun t17 w =>
 cond t17 (join (upd (upd (upd (upd (upd (upd (ini [a0, a1]) 3 t3) 4 (.slice none 0 0)) 5 t5) 6 t6) 7 t15) 17 t17) (fun j2 =>
 bi ((Instr.loadAt 3 t3).run Tryz.prog w) (fP R) fun t18 w =>
 loop (upd (upd (upd (upd (upd (upd (upd (ini [a0, a1]) 3 t3) 4 (.slice none 0 0)) 5 t5) 6 t6) 7 t15) 17 t17) 8 t18) w fun e3 g3 w j3 =>
 kF Tryz.prog 30 #[a0] w (fP R) fun t21 w =>
 bi ((binOp .lss 3 (g3 8) t21).run Tryz.prog w) (fP R) fun t22 w =>
 cond t22 (bi ((Instr.loadAt 176 t5).run Tryz.prog w) (fP R) fun t25 w =>
 bi ((Instr.buildSlice 176 1 #[(0, (g3 8))]).run Tryz.prog w) (fP R) fun t27 w =>
 bi ((Builtin.append_ #[176, 176] 176 #[t25, t27]).run Tryz.prog w) (fP R) fun t28 w =>
 qY ((Instr.storeAt 176 t5 t28).run Tryz.prog w) (fP R) fun _ w =>
 bi ((binOp .add 3 (g3 8) (Z.i 1)).run Tryz.prog w) (fP R) fun t24 w =>
 j3 (upd (upd (mix [22,8] g3 e3) 22 t22) 8 t24) w)
 (j2 (upd (mix [22,8] g3 e3) 22 t22) w)) fun e2 g2 w =>
 bi ((Instr.loadAt 176 t5).run Tryz.prog w) (fP R) fun t29 w =>
 lQ (xE undef) w fun w => R (.returned t29) w)
 (j1 (upd (upd (upd (upd (upd (upd (ini [a0, a1]) 3 t3) 4 (.slice none 0 0)) 5 t5) 6 t6) 7 t15) 17 t17) w)) fun e1 g1 w =>
 join (mix [17,22,8,4] g1 e1) (fun j4 =>
 bi ((Instr.loadAt 173 t6).run Tryz.prog w) (fP R) fun t31 w =>
 kF Tryz.prog 141 #[a0, t31] w (fP R) fun t32 w =>
 vF Tryz.prog t32 1 w (fun l5 xs5 w mid5 fin5 =>
 mid5 (fun w => oL 3 t3 w aW fun t35 w =>
 oQ false .eql 3 (xs5.getD 0 undef) t35 w aW fun t36 w =>
 gd t36 false (fun K => oL 176 t5 w aW K) w fun t38 w =>
 gd t36 false (fun K => oN 176 t38 w aW K) w fun t39 w =>
 gd t36 false (fun K => oP .gtr 3 t39 (Z.i 0) w aW K) w fun t40 w =>
 pick t36 (.bool true) t40 w fun t41 w =>
 cond t41 (oL 176 t5 w aW fun t42 w =>
 bi ((Instr.buildSlice 176 1 #[(0, (xs5.getD 0 undef))]).run Tryz.prog w) aW fun t44 w =>
 bi ((Builtin.append_ #[176, 176] 176 #[t42, t44]).run Tryz.prog w) aW fun t45 w =>
 oS 176 t5 t45 w aW fun _ w =>
 fin5 .normal w)
 (fin5 .normal w)) w)
 (fun D w => j4 (upd (upd (mix [17,22,8,4] g1 e1) 32 t32) 1000000 (mkV D undef)) w)
 []) fun e4 g4 w =>
 bi ((Instr.loadAt 176 t5).run Tryz.prog w) (fP R) fun t46 w =>
 lQ (xE (g4 1000000)) w fun w => R (.returned t46) w
theorem Yc.calls {R w a0 a1} : Yc R w a0 a1 → oX 120 #[a0, a1] w R := Z.k [0,1,3,4,5,6,7,8,9,17,22,32,33,41]
def Yh (a0 a1 : Value) : Prop :=
 join (upd (ini [a0, a1]) 4 (Z.i 0)) (fun j1 =>
 oN 176 a0 w R fun t7 w =>
 loop (upd (upd (upd (ini [a0, a1]) 4 (Z.i 0)) 7 t7) 8 (Z.i 0)) w fun e2 g2 w j2 =>
 oP .lss 3 (g2 8) t7 w R fun t9 w =>
 cond t9 (oI 176 a0 (g2 8) w R fun t14 w =>
 oL 3 t14 w R fun t15 w =>
 AO Tryz.prog a1 #[t15] w R fun t16 w =>
 cond t16 (R (.returned (g2 8)) w)
 (oP .add 3 (g2 8) (Z.i 1) w R fun t18 w =>
 j2 (upd (upd (upd (upd (mix [9,5,16,4,8] g2 e2) 9 t9) 5 (g2 8)) 16 t16) 8 t18) w))
 (j1 (upd (mix [9,5,16,4,8] g2 e2) 9 t9) w)) fun e1 g1 w =>
 R (.returned (Z.i (-1))) w
theorem Yh.calls {R w a0 a1} : Yh R w a0 a1 → oX 121 #[a0, a1] w R := Z.k [0,1,4,5,7,8,9,16]
def Yg (a0 a1 : Value) : Prop :=
 oL 33 a1 w R fun t4 w =>
 oC 31 #[t4, a0] w R fun t6 w =>
 bi ((Instr.field 37 t6 0).run Tryz.prog w) R fun t7 w =>
 oQ true .eql 5 t7 (Z.u 0) w R fun t8 w =>
 gd t8 true (fun K => oL 33 a1 w R K) w fun t10 w =>
 gd t8 true (fun K => K a0 w) w fun t11 w =>
 gd t8 true (fun K => oC 31 #[t10, t11] w R K) w fun t12 w =>
 gd t8 true (fun K => bi ((Instr.field 37 t12 1).run Tryz.prog w) R K) w fun t13 w =>
 gd t8 true (fun K => oU t13 w R K) w fun t14 w =>
 pick t8 t14 (.bool false) w fun t15 w =>
 R (.returned t15) w
theorem Yg.calls {R w a0 a1} : Yg R w a0 a1 → oX 122 #[a0, a1] w R := Z.k [0,1,3]
def X9 (a0 a1 a2 : Value) : Prop :=
 join (upd (ini [a0, a1, a2]) 6 (Z.i 0)) (fun j1 =>
 oC 30 #[a0] w R fun t10 w =>
 loop (upd (upd (upd (ini [a0, a1, a2]) 6 (Z.i 0)) 10 t10) 11 (Z.i 0)) w fun e2 g2 w j2 =>
 oP .lss 3 (g2 11) t10 w R fun t12 w =>
 cond t12 (oP .mul 3 (g2 11) a2 w R fun t18 w =>
 oC 125 #[a0, a1, t18] w R fun t19 w =>
 oC 131 #[a0, t19] w R fun t22 w =>
 cond t22 (oC 125 #[a0, t19, (Z.i 1)] w R fun t25 w =>
 R (.returned t25) w)
 (oP .add 3 (g2 11) (Z.i 1) w R fun t26 w =>
 j2 (upd (upd (upd (upd (upd (mix [12,7,8,22,6,11] g2 e2) 12 t12) 7 (g2 11)) 8 t19) 22 t22) 11 t26) w))
 (j1 (upd (mix [12,7,8,22,6,11] g2 e2) 12 t12) w)) fun e1 g1 w =>
 R (.returned (Z.i 0)) w
theorem X9.calls {R w a0 a1 a2} : X9 R w a0 a1 a2 → oX 130 #[a0, a1, a2] w R := Z.k [0,1,2,6,7,8,10,11,12,22]
def X7 (a0 a1 : Value) : Prop :=
 oC 116 #[a0, a1] w R fun t10 w =>
 oE t10 0 w R fun t11 w =>
 oE t10 1 w R fun t12 w =>
 oA 173 w R fun t5 w =>
 oS 173 t5 t11 w R fun _ w =>
 gd t12 true (fun K => oF 173 t5 0 w R K) w fun t15 w =>
 gd t12 true (fun K => oL 3 t15 w R K) w fun t16 w =>
 gd t12 true (fun K => K a1 w) w fun t17 w =>
 gd t12 true (fun K => oQ false .eql 3 t16 t17 w R K) w fun t18 w =>
 pick t12 t18 (.bool false) w fun t19 w =>
 gd t19 true (fun K => oF 173 t5 1 w R K) w fun t21 w =>
 gd t19 true (fun K => oL 3 t21 w R K) w fun t22 w =>
 gd t19 true (fun K => oP .gtr 3 t22 (Z.i 0) w R K) w fun t23 w =>
 pick t19 t23 (.bool false) w fun t24 w =>
 gd t24 true (fun K => oF 173 t5 2 w R K) w fun t26 w =>
 gd t24 true (fun K => oL 5 t26 w R K) w fun t27 w =>
 gd t24 true (fun K => oC 136 #[t27] w R K) w fun t28 w =>
 gd t24 true (fun K => oU t28 w R K) w fun t29 w =>
 pick t24 t29 (.bool false) w fun t30 w =>
 R (.returned t30) w
theorem X7.calls {R w a0 a1} : X7 R w a0 a1 → oX 131 #[a0, a1] w R := Z.k [0,1,4,5,6]
def X6 (a0 a1 : Value) : Prop :=
 oB 32 a0 w R fun t2 w =>
 oP .lss 3 a1 (Z.i 0) w R fun t8 w =>
 gd t8 false (fun K => K a1 w) w fun t10 w =>
 gd t8 false (fun K => oL 32 t2 w R K) w fun t11 w =>
 gd t8 false (fun K => oC 43 #[t11] w R K) w fun t12 w =>
 gd t8 false (fun K => oP .geq 3 t10 t12 w R K) w fun t13 w =>
 pick t8 (.bool true) t13 w fun t14 w =>
 cond t14 (R (.returned (.tuple #[(Z.i 0), (Z.i 0), (.bool false)])) w)
 (drawn w fun T w =>
 qG T w 32 t2 1 3 fun t17 =>
 bF T w (fun w K => oP .quo 3 a1 t17 w aW K) fun t18 =>
 qG T w 32 t2 1 3 fun t21 =>
 bF T w (fun w K => oP .rem 3 a1 t21 w aW K) fun t22 =>
 ext w fun w =>
 R (.returned (.tuple #[t18, t22, (.bool true)])) w)
theorem X6.calls {R w a0 a1} : X6 R w a0 a1 → oX 132 #[a0, a1] w R := Z.k [0,1,2,4,5,6,14]
def Yi (a0 a1 : Value) : Prop :=
 bi ((Instr.box 33 a0).run Tryz.prog w) (fP R) fun t2 w =>
 bi ((Instr.box 3 a1).run Tryz.prog w) (fP R) fun t3 w =>
 bi ((Instr.loadAt 33 t2).run Tryz.prog w) (fP R) fun t11 w =>
 bi ((Instr.loadAt 3 t3).run Tryz.prog w) (fP R) fun t12 w =>
 kF Tryz.prog 117 #[t11, t12] w (fP R) fun t13 w =>
 bi ((Op.unary .not t13).run Tryz.prog w) (fP R) fun t14 w =>
 cond t14 (lQ (xE undef) w fun w => R (.returned (.tuple #[(Z.i 0), (.bool false)])) w)
 (bi ((Instr.loadAt 33 t2).run Tryz.prog w) (fP R) fun t16 w =>
 bi ((Instr.loadAt 3 t3).run Tryz.prog w) (fP R) fun t17 w =>
 kF Tryz.prog 116 #[t16, t17] w (fP R) fun t18 w =>
 bi ((Instr.extract t18 0).run Tryz.prog w) (fP R) fun t19 w =>
 bi ((Instr.extract t18 1).run Tryz.prog w) (fP R) fun t20 w =>
 bi ((Instr.alloc 173 true (.tuple #[])).run Tryz.prog w) (fP R) fun t6 w =>
 qY ((Instr.storeAt 173 t6 t19).run Tryz.prog w) (fP R) fun _ w =>
 bi ((Op.unary .not t20).run Tryz.prog w) (fP R) fun t22 w =>
 cond t22 (drawn w fun T w =>
 bF T w (fun w K => oL 33 t2 w aW K) fun t23 =>
 bF T w (fun w K => oC 30 #[t23] w aW K) fun t24 =>
 bF T w (fun w K => oL 3 t3 w aW K) fun t25 =>
 bF T w (fun w K => oP .sub 3 t24 t25 w aW K) fun t26 =>
 ext w fun w =>
 bi ((Instr.loadAt 33 t2).run Tryz.prog w) (fP R) fun t27 w =>
 bi ((Instr.loadAt 3 t3).run Tryz.prog w) (fP R) fun t28 w =>
 bi ((Instr.build 37 #[]).run Tryz.prog w) (fP R) fun t29 w =>
 kF Tryz.prog 157 #[t27, t28, (Z.i 0), t29] w (fP R) fun t30 w =>
 lQ (xE undef) w fun w => R (.returned (.tuple #[t26, (.bool true)])) w)
 (bi ((Instr.alloc 3 true (.tuple #[])).run Tryz.prog w) (fP R) fun t9 w =>
 qY ((Instr.storeAt 3 t9 (Z.i 0)).run Tryz.prog w) (fP R) fun _ w =>
 join (upd (upd (upd (upd (upd (upd (upd (upd (upd (ini [a0, a1]) 2 t2) 3 t3) 4 (Z.i 0)) 5 (.bool false)) 14 t14) 6 t6) 7 t20) 22 t22) 9 t9) (fun j1 =>
 bi ((Instr.loadAt 33 t2).run Tryz.prog w) (fP R) fun t32 w =>
 bi ((Instr.loadAt 173 t6).run Tryz.prog w) (fP R) fun t33 w =>
 kF Tryz.prog 141 #[t32, t33] w (fP R) fun t34 w =>
 vF Tryz.prog t34 1 w (fun l2 xs2 w mid2 fin2 =>
 mid2 (fun w => oL 3 t3 w aW fun t37 w =>
 oQ false .eql 3 (xs2.getD 0 undef) t37 w aW fun t38 w =>
 gd t38 false (fun K => oL 3 t9 w aW K) w fun t40 w =>
 gd t38 false (fun K => oP .gtr 3 t40 (Z.i 0) w aW K) w fun t41 w =>
 pick t38 (.bool true) t41 w fun t42 w =>
 cond t42 (oL 33 t2 w aW fun t43 w =>
 oD 37 #[] w aW fun t45 w =>
 oC 14 #[t43, (xs2.getD 0 undef), t45] w aW fun t46 w =>
 oL 3 t9 w aW fun t47 w =>
 oP .add 3 t47 (Z.i 1) w aW fun t48 w =>
 oS 3 t9 t48 w aW fun _ w =>
 fin2 .normal w)
 (fin2 .normal w)) w)
 (fun D w => j1 (upd (upd (upd (upd (upd (upd (upd (upd (upd (upd (upd (ini [a0, a1]) 2 t2) 3 t3) 4 (Z.i 0)) 5 (.bool false)) 14 t14) 6 t6) 7 t20) 22 t22) 9 t9) 34 t34) 1000000 (mkV D undef)) w)
 []) fun e1 g1 w =>
 drawn w fun T w =>
 bF T w (fun w K => oL 3 t9 w aW K) fun t49 =>
 bF Ext w (fun w K => oL 33 t2 w aW K) fun t50 =>
 bF Ext w (fun w K => oL 3 t3 w aW K) fun t51 =>
 ext w fun w =>
 yg T w (fun w K => kF Tryz.prog 73 #[t50, t51] w (fP R) K) fun t52 w =>
 ext w fun w =>
 lQ (xE (g1 1000000)) w fun w => R (.returned (.tuple #[t49, t52])) w))
theorem Yi.calls {R w a0 a1} : Yi R w a0 a1 → oX 134 #[a0, a1] w R := Z.k [0,1,2,3,4,5,6,7,8,9,10,14,22,34,35,42]
def YS (a0 : Value) : Prop :=
 oA 209 w R fun t2 w =>
 drawn w fun T w =>
 bF T w (fun w K => cu a0 w K) fun t5 =>
 qG T w 204 t5 0 24 fun t7 =>
 bF T w (fun w K => cu a0 w K) fun t9 =>
 qG T w 204 t9 1 3 fun t11 =>
 bF T w (fun w K => oI 24 t7 t11 w aW K) fun t12 =>
 bF T w (fun w K => oL 5 t12 w aW K) fun t13 =>
 bF T w (fun w K => oC 115 #[t13] w aW K) fun t14 =>
 ext w fun w =>
 cond t14 (oC 162 #[a0] w R fun t16 w =>
 oS 209 t2 t16 w R fun _ w =>
 iY ((Instr.loadAt 209 t2).run Tryz.prog w) w fun r0 =>
 R (.returned r0) w)
 (oC 163 #[a0] w R fun t18 w =>
 join (upd (upd (upd (upd (ini [a0]) 2 t2) 14 t14) 3 t18) 19 t18) (fun j1 =>
 oQ true .eql 5 t18 (Z.u 17) w R fun t21 w =>
 cond t21 (j1 (upd (upd (upd (upd (upd (ini [a0]) 2 t2) 14 t14) 3 t18) 19 t18) 20 t21) w)
 (oQ true .eql 5 t18 (Z.u 18) w R fun t22 w =>
 j1 (upd (upd (upd (upd (upd (upd (ini [a0]) 2 t2) 14 t14) 3 t18) 19 t18) 20 t21) 20 t22) w)) fun e1 g1 w =>
 cond (g1 20) (oC 164 #[a0] w R fun t25 w =>
 oD 209 #[(0, t18), (1, t25)] w R fun t26 w =>
 oS 209 t2 t26 w R fun _ w =>
 iY ((Instr.loadAt 209 t2).run Tryz.prog w) w fun r0 =>
 R (.returned r0) w)
 (oQ true .eql 5 t18 (Z.u 29) w R fun t28 w =>
 cond t28 (oC 163 #[a0] w R fun t31 w =>
 oP .and 5 t31 (Z.u 63) w R fun t32 w =>
 oD 209 #[(0, t18), (2, t32)] w R fun t33 w =>
 oS 209 t2 t33 w R fun _ w =>
 iY ((Instr.loadAt 209 t2).run Tryz.prog w) w fun r0 =>
 R (.returned r0) w)
 (join (upd (mix [20] g1 e1) 27 t28) (fun j2 =>
 oQ true .eql 5 t18 (Z.u 41) w R fun t35 w =>
 cond t35 (j2 (upd (upd (mix [20] g1 e1) 27 t28) 34 t35) w)
 (oQ true .eql 5 t18 (Z.u 44) w R fun t36 w =>
 j2 (upd (upd (upd (mix [20] g1 e1) 27 t28) 34 t35) 34 t36) w)) fun e2 g2 w =>
 cond (g2 34) (oC 163 #[a0] w R fun t41 w =>
 bi ((convert 5 3 t41).run Tryz.prog w) R fun t42 w =>
 oC 165 #[a0, t18, t42] w R fun t43 w =>
 oD 209 #[(0, t18), (4, t43)] w R fun t44 w =>
 oS 209 t2 t44 w R fun _ w =>
 iY ((Instr.loadAt 209 t2).run Tryz.prog w) w fun r0 =>
 R (.returned r0) w)
 (oQ true .eql 5 t18 (Z.u 40) w R fun t46 w =>
 cond t46 (oC 165 #[a0, t18, (Z.i 1)] w R fun t50 w =>
 oD 209 #[(0, t18), (4, t50)] w R fun t51 w =>
 oS 209 t2 t51 w R fun _ w =>
 iY ((Instr.loadAt 209 t2).run Tryz.prog w) w fun r0 =>
 R (.returned r0) w)
 (join (upd (mix [34] g2 e2) 45 t46) (fun j3 =>
 oQ true .eql 5 t18 (Z.u 19) w R fun t53 w =>
 cond t53 (j3 (upd (upd (mix [34] g2 e2) 45 t46) 52 t53) w)
 (oQ true .eql 5 t18 (Z.u 5) w R fun t54 w =>
 j3 (upd (upd (upd (mix [34] g2 e2) 45 t46) 52 t53) 52 t54) w)) fun e3 g3 w =>
 cond (g3 52) (oD 209 #[(0, t18)] w R fun t56 w =>
 oS 209 t2 t56 w R fun _ w =>
 iY ((Instr.loadAt 209 t2).run Tryz.prog w) w fun r0 =>
 R (.returned r0) w)
 (oQ true .eql 5 t18 (Z.u 60) w R fun t58 w =>
 cond t58 (oC 166 #[a0] w R fun t60 w =>
 oS 209 t2 t60 w R fun _ w =>
 iY ((Instr.loadAt 209 t2).run Tryz.prog w) w fun r0 =>
 R (.returned r0) w)
 (oQ true .eql 5 t18 (Z.u 8) w R fun t62 w =>
 cond t62 (oC 167 #[a0] w R fun t65 w =>
 oD 209 #[(0, t18), (2, t65)] w R fun t66 w =>
 oS 209 t2 t66 w R fun _ w =>
 iY ((Instr.loadAt 209 t2).run Tryz.prog w) w fun r0 =>
 R (.returned r0) w)
 (oD 206 #[(0, (Z.i 31))] w R fun t67 w =>
 bi ((Instr.makeInterface 206 t67).run Tryz.prog w) R fun t68 w =>
 bi ((Instr.panic t68).run Tryz.prog w) R fun _ w =>
 iY ((Instr.loadAt 209 t2).run Tryz.prog w) w fun r0 =>
 R (.returned r0) w))))))))
theorem YS.calls {R w a0} : YS R w a0 → oX 147 #[a0] w R := Z.k [0,2,3,14,19,20,27,34,45,52,57,61]
def XI (a0 : Value) : Prop :=
 oN 24 a0 w R fun t7 w =>
 oP .lss 3 t7 (Z.i 2) w R fun t8 w =>
 cond t8 (R (.returned (.tuple #[(.slice none 0 0), (.slice none 0 0), (Z.i 34)])) w)
 (drawn w fun T w =>
 bF T w (fun w K => oI 24 a0 (Z.i 0) w aW K) fun t10 =>
 bF T w (fun w K => oL 5 t10 w aW K) fun t11 =>
 bF T w (fun w K => bi ((convert 5 3 t11).run Tryz.prog w) aW K) fun t12 =>
 bF T w (fun w K => oP .shl 3 t12 (.int .u64 8) w aW K) fun t13 =>
 bF T w (fun w K => oI 24 a0 (Z.i 1) w aW K) fun t15 =>
 bF T w (fun w K => oL 5 t15 w aW K) fun t16 =>
 bF T w (fun w K => bi ((convert 5 3 t16).run Tryz.prog w) aW K) fun t17 =>
 bF T w (fun w K => oP .or 3 t13 t17 w aW K) fun t18 =>
 ext w fun w =>
 join (upd (upd (upd (upd (upd (ini [a0]) 2 (.slice none 0 0)) 3 (.slice none 0 0)) 4 (Z.i 0)) 8 t8) 5 t18) (fun j1 =>
 oQ true .eql 3 t18 (Z.i 0) w R fun t20 w =>
 cond t20 (oN 24 a0 w R fun t22 w =>
 j1 (upd (upd (upd (upd (upd (upd (upd (ini [a0]) 2 (.slice none 0 0)) 3 (.slice none 0 0)) 4 (Z.i 0)) 8 t8) 5 t18) 20 t20) 5 t22) w)
 (j1 (upd (upd (upd (upd (upd (upd (ini [a0]) 2 (.slice none 0 0)) 3 (.slice none 0 0)) 4 (Z.i 0)) 8 t8) 5 t18) 20 t20) w)) fun e1 g1 w =>
 oP .lss 3 (g1 5) (Z.i 3) w R fun t24 w =>
 gd t24 false (fun K => K (g1 5) w) w fun t26 w =>
 gd t24 false (fun K => K a0 w) w fun t27 w =>
 gd t24 false (fun K => oN 24 t27 w R K) w fun t28 w =>
 gd t24 false (fun K => oP .gtr 3 t26 t28 w R K) w fun t29 w =>
 pick t24 (.bool true) t29 w fun t30 w =>
 cond t30 (R (.returned (.tuple #[(.slice none 0 0), (.slice none 0 0), (Z.i 34)])) w)
 (drawn w fun T w =>
 bF T w (fun w K => bi ((Instr.sliceAt 24 a0 (some (Z.i 2)) (some (g1 5)) none).run Tryz.prog w) aW K) fun t33 =>
 bF T w (fun w K => bi ((Instr.sliceAt 24 a0 (some (g1 5)) none none).run Tryz.prog w) aW K) fun t36 =>
 ext w fun w =>
 R (.returned (.tuple #[t33, t36, (Z.i 0)])) w))
theorem XI.calls {R w a0} : XI R w a0 → oX 148 #[a0] w R := Z.k [0,2,3,4,5,8,20,30]
def XO (a0 : Value) : Prop :=
 oA 214 w R fun t2 w =>
 oI 24 a0 (Z.i 0) w R fun t5 w =>
 oL 5 t5 w R fun t6 w =>
 oQ true .eql 5 t6 (Z.u 1) w R fun t8 w =>
 cond t8 (bi ((Instr.sliceAt 24 a0 (some (Z.i 1)) none none).run Tryz.prog w) R fun t10 w =>
 oC 168 #[t10] w R fun t11 w =>
 oE t11 0 w R fun t12 w =>
 oE t11 1 w R fun t13 w =>
 oS 214 t2 t12 w R fun _ w =>
 iY ((Instr.loadAt 214 t2).run Tryz.prog w) w fun r0 =>
 R (.returned (.tuple #[r0, t13])) w)
 (oQ true .eql 5 t6 (Z.u 3) w R fun t15 w =>
 cond t15 (bi ((Instr.sliceAt 24 a0 (some (Z.i 1)) none none).run Tryz.prog w) R fun t17 w =>
 oC 169 #[t17] w R fun t18 w =>
 oE t18 0 w R fun t19 w =>
 oE t18 1 w R fun t20 w =>
 oS 214 t2 t19 w R fun _ w =>
 iY ((Instr.loadAt 214 t2).run Tryz.prog w) w fun r0 =>
 R (.returned (.tuple #[r0, t20])) w)
 (oQ true .eql 5 t6 (Z.u 64) w R fun t22 w =>
 cond t22 (bi ((Instr.sliceAt 24 a0 (some (Z.i 1)) none none).run Tryz.prog w) R fun t24 w =>
 oC 170 #[t24] w R fun t25 w =>
 oE t25 0 w R fun t26 w =>
 oE t25 1 w R fun t27 w =>
 oS 214 t2 t26 w R fun _ w =>
 iY ((Instr.loadAt 214 t2).run Tryz.prog w) w fun r0 =>
 R (.returned (.tuple #[r0, t27])) w)
 (oD 214 #[] w R fun t28 w =>
 oS 214 t2 t28 w R fun _ w =>
 iY ((Instr.loadAt 214 t2).run Tryz.prog w) w fun r0 =>
 R (.returned (.tuple #[r0, (.bool false)])) w)))
theorem XO.calls {R w a0} : XO R w a0 → oX 149 #[a0] w R := Z.k [0,2,3,6,7,14,21]
def YT (a0 a1 a2 : Value) : Prop :=
 oP .lss 3 a2 (Z.i 0) w R fun t14 w =>
 gd t14 false (fun K => K a2 w) w fun t16 w =>
 gd t14 false (fun K => K a0 w) w fun t17 w =>
 gd t14 false (fun K => oC 30 #[t17] w R K) w fun t18 w =>
 gd t14 false (fun K => oP .geq 3 t16 t18 w R K) w fun t19 w =>
 pick t14 (.bool true) t19 w fun t20 w =>
 cond t20 (R (.returned (.tuple #[(Z.i 0), (Z.i 0), (Z.i 32)])) w)
 (oD 229 #[(0, a0), (1, a2)] w R fun t23 w =>
 oB 229 t23 w R fun t24 w =>
 join (upd (upd (upd (upd (upd (ini [a0, a1, a2]) 6 (Z.i 0)) 7 (Z.i 0)) 8 (Z.i 0)) 20 t20) 9 t24) (fun j1 =>
 oN 121 a1 w R fun t26 w =>
 loop (upd (upd (upd (upd (upd (upd (upd (upd (ini [a0, a1, a2]) 6 (Z.i 0)) 7 (Z.i 0)) 8 (Z.i 0)) 20 t20) 9 t24) 25 a1) 26 t26) 27 (Z.i 0)) w fun e2 g2 w j2 =>
 oP .lss 3 (g2 27) t26 w R fun t28 w =>
 cond t28 (oI 121 a1 (g2 27) w R fun t30 w =>
 oL 209 t30 w R fun t31 w =>
 oA 209 w R fun t11 w =>
 oS 209 t11 t31 w R fun _ w =>
 oL 209 t11 w R fun t33 w =>
 oC 171 #[t24, t33] w R fun t34 w =>
 oQ true .neq 25 t34 (Z.i 0) w R fun t36 w =>
 cond t36 (cu t24 w fun t38 w =>
 oG 229 t38 1 3 w R fun t40 w =>
 R (.returned (.tuple #[t40, (g2 27), t34])) w)
 (oP .add 3 (g2 27) (Z.i 1) w R fun t43 w =>
 j2 (upd (upd (upd (upd (upd (upd (mix [28,11,10,12,36,6,7,8,27] g2 e2) 28 t28) 11 t11) 10 (g2 27)) 12 t34) 36 t36) 27 t43) w))
 (j1 (upd (mix [28,11,10,12,36,6,7,8,27] g2 e2) 28 t28) w)) fun e1 g1 w =>
 cu t24 w fun t45 w =>
 oG 229 t45 1 3 w R fun t47 w =>
 oN 121 a1 w R fun t49 w =>
 R (.returned (.tuple #[t47, t49, (Z.i 0)])) w)
theorem YT.calls {R w a0 a1 a2} : YT R w a0 a1 a2 → oX 150 #[a0, a1, a2] w R := Z.k [0,1,2,6,7,8,9,10,11,12,20,25,26,27,28,36]
def XC (a0 : Value) : Prop :=
 oP .and 5 a0 (Z.u 2) w R fun t4 w =>
 oQ true .neq 5 t4 (Z.u 0) w R fun t5 w =>
 R (.returned t5) w
theorem XC.calls {R w a0} : XC R w a0 → oX 151 #[a0] w R := Z.k [0,2]
def XB (a0 : Value) : Prop :=
 oP .and 5 a0 (Z.u 4) w R fun t4 w =>
 oQ true .neq 5 t4 (Z.u 0) w R fun t5 w =>
 R (.returned t5) w
theorem XB.calls {R w a0} : XB R w a0 → oX 152 #[a0] w R := Z.k [0,2]
def YU (a0 a1 : Value) : Prop :=
 oB 214 a1 w R fun t3 w =>
 oA 66 w R fun t4 w =>
 oG 214 t3 0 5 w R fun t7 w =>
 oQ true .eql 5 t7 (Z.u 1) w R fun t9 w =>
 cond t9 (oG 214 t3 1 5 w R fun t11 w =>
 oD 66 #[(0, t11)] w R fun t12 w =>
 oS 66 t4 t12 w R fun _ w =>
 iY ((Instr.loadAt 66 t4).run Tryz.prog w) w fun r0 =>
 R (.returned r0) w)
 (oQ true .eql 5 t7 (Z.u 3) w R fun t14 w =>
 cond t14 (oG 214 t3 1 5 w R fun t17 w =>
 oC 172 #[t17] w R fun t18 w =>
 oC 82 #[a0, t18] w R fun t19 w =>
 oD 66 #[] w R fun t20 w =>
 oS 66 t4 t20 w R fun _ w =>
 iY ((Instr.loadAt 66 t4).run Tryz.prog w) w fun r0 =>
 R (.returned r0) w)
 (oG 214 t3 2 124 w R fun t23 w =>
 oC 65 #[a0, t23] w R fun t24 w =>
 oA 66 w R fun t5 w =>
 oS 66 t5 t24 w R fun _ w =>
 oF 66 t5 0 w R fun t25 w =>
 oS 5 t25 (Z.u 0) w R fun _ w =>
 oL 66 t5 w R fun t26 w =>
 oS 66 t4 t26 w R fun _ w =>
 iY ((Instr.loadAt 66 t4).run Tryz.prog w) w fun r0 =>
 R (.returned r0) w))
theorem YU.calls {R w a0 a1} : YU R w a0 a1 → oX 153 #[a0, a1] w R := Z.k [0,1,3,4,5,7,8,13]
def XX (a0 : Value) : Prop :=
 oP .geq 5 a0 (Z.u 240) w R fun t4 w =>
 gd t4 true (fun K => K a0 w) w fun t6 w =>
 gd t4 true (fun K => oP .leq 5 t6 (Z.u 249) w R K) w fun t7 w =>
 pick t4 t7 (.bool false) w fun t8 w =>
 R (.returned t8) w
theorem XX.calls {R w a0} : XX R w a0 → oX 155 #[a0] w R := Z.k [0,2]
def YV (a0 a1 a2 a3 : Value) : Prop :=
 bi ((Instr.box 33 a0).run Tryz.prog w) (fP R) fun t4 w =>
 bi ((Instr.box 37 a3).run Tryz.prog w) (fP R) fun t7 w =>
 bi ((Instr.alloc 3 true (.tuple #[])).run Tryz.prog w) (fP R) fun t9 w =>
 qY ((Instr.storeAt 3 t9 (Z.i 0)).run Tryz.prog w) (fP R) fun _ w =>
 join (upd (upd (upd (upd (ini [a0, a1, a2, a3]) 4 t4) 7 t7) 8 (Z.i 0)) 9 t9) (fun j1 =>
 bi ((Instr.loadAt 33 t4).run Tryz.prog w) (fP R) fun t11 w =>
 cu t11 w fun t12 w =>
 bi ((Instr.fieldAt 91 t12 0).run Tryz.prog w) (fP R) fun t13 w =>
 bi ((Instr.loadAt 32 t13).run Tryz.prog w) (fP R) fun t14 w =>
 kF Tryz.prog 178 #[t14, a1, a2] w (fP R) fun t17 w =>
 vF Tryz.prog t17 1 w (fun l2 xs2 w mid2 fin2 =>
 mid2 (fun w => drawn w fun T w =>
 bF T w (fun w K => oL 33 t4 w aW K) fun t19 =>
 bF T w (fun w K => cu t19 w K) fun t20 =>
 qG T w 91 t20 1 52 fun t22 =>
 bF T w (fun w K => oL 37 t7 w aW K) fun t24 =>
 bF T w (fun w K => oI 52 t22 (xs2.getD 0 undef) w aW K) fun t25 =>
 ext w fun w =>
 oS 37 t25 t24 w aW fun _ w =>
 ext w fun w =>
 oL 3 t9 w aW fun t26 w =>
 oP .add 3 t26 (Z.i 1) w aW fun t27 w =>
 oS 3 t9 t27 w aW fun _ w =>
 fin2 .normal w) w)
 (fun D w => j1 (upd (upd (upd (upd (upd (upd (ini [a0, a1, a2, a3]) 4 t4) 7 t7) 8 (Z.i 0)) 9 t9) 17 t17) 1000000 (mkV D undef)) w)
 []) fun e1 g1 w =>
 bi ((Instr.loadAt 3 t9).run Tryz.prog w) (fP R) fun t28 w =>
 lQ (xE (g1 1000000)) w fun w => R (.returned t28) w
theorem YV.calls {R w a0 a1 a2 a3} : YV R w a0 a1 a2 a3 → oX 157 #[a0, a1, a2, a3] w R := Z.k [0,1,2,3,4,7,8,9,10,17,18]
def YW (a0 : Value) : Prop :=
 oA 209 w R fun t2 w =>
 cu a0 w fun t5 w =>
 oG 204 t5 1 3 w R fun t7 w =>
 join (upd (upd (ini [a0]) 2 t2) 3 t7) (fun j1 =>
 loop (upd (upd (ini [a0]) 2 t2) 3 t7) w fun e2 g2 w j2 =>
 drawn w fun T w =>
 bF T w (fun w K => cu a0 w K) fun t9 =>
 qG T w 204 t9 1 3 fun t11 =>
 bF T w (fun w K => cu a0 w K) fun t13 =>
 qG T w 204 t13 0 24 fun t15 =>
 bF T w (fun w K => oN 24 t15 w aW K) fun t16 =>
 bF T w (fun w K => oP .lss 3 t11 t16 w aW K) fun t17 =>
 bF T w (fun w K => gd t17 true (fun K => K a0 w) w K) fun t19 =>
 bF T w (fun w K => gd t17 true (fun K => cu t19 w K) w K) fun t20 =>
 bF T w (fun w K => gd t17 true (fun K => oF 204 t20 0 w aW K) w K) fun t21 =>
 bF T w (fun w K => gd t17 true (fun K => oL 24 t21 w aW K) w K) fun t22 =>
 bF T w (fun w K => gd t17 true (fun K => K a0 w) w K) fun t23 =>
 bF T w (fun w K => gd t17 true (fun K => cu t23 w K) w K) fun t24 =>
 bF T w (fun w K => gd t17 true (fun K => oF 204 t24 1 w aW K) w K) fun t25 =>
 bF T w (fun w K => gd t17 true (fun K => oL 3 t25 w aW K) w K) fun t26 =>
 bF T w (fun w K => gd t17 true (fun K => oI 24 t22 t26 w aW K) w K) fun t27 =>
 bF T w (fun w K => gd t17 true (fun K => oL 5 t27 w aW K) w K) fun t28 =>
 bF T w (fun w K => gd t17 true (fun K => oC 115 #[t28] w aW K) w K) fun t29 =>
 bF T w (fun w K => pick t17 t29 (.bool false) w K) fun t30 =>
 ext w fun w =>
 cond t30 (cu a0 w fun t32 w =>
 oG 204 t32 1 3 w R fun t34 w =>
 oP .add 3 t34 (Z.i 1) w R fun t35 w =>
 cu a0 w fun t36 w =>
 oF 204 t36 1 w R fun t37 w =>
 oS 3 t37 t35 w R fun _ w =>
 j2 (upd (mix [30] g2 e2) 30 t30) w)
 (j1 (upd (mix [30] g2 e2) 30 t30) w)) fun e1 g1 w =>
 drawn w fun T w =>
 bF T w (fun w K => cu a0 w K) fun t39 =>
 qG T w 204 t39 0 24 fun t41 =>
 bF T w (fun w K => cu a0 w K) fun t44 =>
 qG T w 204 t44 1 3 fun t46 =>
 bF T w (fun w K => bi ((Instr.sliceAt 24 t41 (some t7) (some t46) none).run Tryz.prog w) aW K) fun t47 =>
 ext w fun w =>
 oC 179 #[t47] w R fun t48 w =>
 bF T w (fun w K => oD 209 #[(0, (Z.u 0)), (5, t48)] w aW K) fun t49 =>
 ext w fun w =>
 oS 209 t2 t49 w R fun _ w =>
 ext w fun w =>
 iY ((Instr.loadAt 209 t2).run Tryz.prog w) w fun r0 =>
 R (.returned r0) w
theorem YW.calls {R w a0} : YW R w a0 → oX 162 #[a0] w R := Z.k [0,2,3,30]
def YX (a0 : Value) : Prop :=
 join (upd (ini [a0]) 2 (Z.u 0)) (fun j1 =>
 drawn w fun T w =>
 bF T w (fun w K => cu a0 w K) fun t4 =>
 qG T w 204 t4 1 3 fun t6 =>
 bF T w (fun w K => cu a0 w K) fun t8 =>
 qG T w 204 t8 0 24 fun t10 =>
 bF T w (fun w K => oN 24 t10 w aW K) fun t11 =>
 bF T w (fun w K => oP .geq 3 t6 t11 w aW K) fun t12 =>
 ext w fun w =>
 cond t12 (oD 206 #[(0, (Z.i 20))] w R fun t13 w =>
 bi ((Instr.makeInterface 206 t13).run Tryz.prog w) R fun t14 w =>
 bi ((Instr.panic t14).run Tryz.prog w) R fun _ w =>
 j1 (upd (upd (ini [a0]) 2 (Z.u 0)) 12 t12) w)
 (j1 (upd (upd (ini [a0]) 2 (Z.u 0)) 12 t12) w)) fun e1 g1 w =>
 cu a0 w fun t16 w =>
 oG 204 t16 1 3 w R fun t18 w =>
 oP .add 3 t18 (Z.i 1) w R fun t19 w =>
 cu a0 w fun t20 w =>
 oF 204 t20 1 w R fun t21 w =>
 oS 3 t21 t19 w R fun _ w =>
 drawn w fun T w =>
 bF T w (fun w K => cu a0 w K) fun t23 =>
 qG T w 204 t23 0 24 fun t25 =>
 bF T w (fun w K => cu a0 w K) fun t27 =>
 qG T w 204 t27 1 3 fun t29 =>
 bF T w (fun w K => oP .sub 3 t29 (Z.i 1) w aW K) fun t30 =>
 bF T w (fun w K => oI 24 t25 t30 w aW K) fun t31 =>
 bF T w (fun w K => oL 5 t31 w aW K) fun t32 =>
 ext w fun w =>
 R (.returned t32) w
theorem YX.calls {R w a0} : YX R w a0 → oX 163 #[a0] w R := Z.k [0,2,12]
def YY (a0 : Value) : Prop :=
 oC 163 #[a0] w R fun t5 w =>
 oC 163 #[a0] w R fun t8 w =>
 oC 138 #[t5, t8] w R fun t9 w =>
 R (.returned t9) w
theorem YY.calls {R w a0} : YY R w a0 → oX 164 #[a0] w R := Z.k [0,2,3]
def YZ (a0 a1 a2 : Value) : Prop :=
 join (upd (upd (ini [a0, a1, a2]) 6 (.slice none 0 0)) 7 (.slice none 0 0)) (fun j1 =>
 loop (upd (upd (upd (upd (ini [a0, a1, a2]) 6 (.slice none 0 0)) 7 (.slice none 0 0)) 11 a2) 12 (Z.i 0)) w fun e2 g2 w j2 =>
 oP .lss 3 (g2 12) a2 w R fun t13 w =>
 cond t13 (oC 163 #[a0] w R fun t15 w =>
 oC 163 #[a0] w R fun t18 w =>
 oD 240 #[(0, t15), (1, t18)] w R fun t19 w =>
 oA 240 w R fun t9 w =>
 oS 240 t9 t19 w R fun _ w =>
 join (upd (upd (upd (mix [13,8,9,10,24,7,12] g2 e2) 13 t13) 8 t15) 9 t9) (fun j3 =>
 oL 240 t9 w R fun t21 w =>
 oC 180 #[a1, t21] w R fun t22 w =>
 oQ true .neq 25 t22 (Z.i 0) w R fun t24 w =>
 cond t24 (oD 206 #[(0, t22)] w R fun t26 w =>
 bi ((Instr.makeInterface 206 t26).run Tryz.prog w) R fun t27 w =>
 bi ((Instr.panic t27).run Tryz.prog w) R fun _ w =>
 j3 (upd (upd (upd (upd (upd (mix [13,8,9,10,24,7,12] g2 e2) 13 t13) 8 t15) 9 t9) 10 t22) 24 t24) w)
 (j3 (upd (upd (upd (upd (upd (mix [13,8,9,10,24,7,12] g2 e2) 13 t13) 8 t15) 9 t9) 10 t22) 24 t24) w)) fun e3 g3 w =>
 oL 240 t9 w R fun t29 w =>
 bi ((Instr.buildSlice 207 1 #[(0, t29)]).run Tryz.prog w) R fun t30 w =>
 bi ((Builtin.append_ #[207, 207] 207 #[(g2 7), t30]).run Tryz.prog w) R fun t31 w =>
 oP .add 3 (g2 12) (Z.i 1) w R fun t32 w =>
 j2 (upd (upd (mix [10,24] g3 e3) 7 t31) 12 t32) w)
 (j1 (upd (mix [13,8,9,10,24,7,12] g2 e2) 13 t13) w)) fun e1 g1 w =>
 R (.returned (g1 7)) w
theorem YZ.calls {R w a0 a1 a2} : YZ R w a0 a1 a2 → oX 165 #[a0, a1, a2] w R := Z.k [0,1,2,6,7,8,9,10,11,12,13,24]
def Y0 (a0 : Value) : Prop :=
 oA 209 w R fun t2 w =>
 oC 164 #[a0] w R fun t5 w =>
 oC 163 #[a0] w R fun t7 w =>
 oD 209 #[(0, (Z.u 60)), (1, t5), (2, t7)] w R fun t8 w =>
 oA 209 w R fun t3 w =>
 oS 209 t3 t8 w R fun _ w =>
 join (upd (upd (ini [a0]) 2 t2) 3 t3) (fun j1 =>
 oG 209 t3 2 5 w R fun t11 w =>
 oQ true .eql 5 t11 (Z.u 8) w R fun t12 w =>
 cond t12 (oC 167 #[a0] w R fun t14 w =>
 oF 209 t3 3 w R fun t15 w =>
 oS 4 t15 (.bool true) w R fun _ w =>
 oF 209 t3 2 w R fun t16 w =>
 oS 5 t16 t14 w R fun _ w =>
 j1 (upd (upd (upd (ini [a0]) 2 t2) 3 t3) 9 t12) w)
 (oG 209 t3 2 5 w R fun t19 w =>
 oC 115 #[t19] w R fun t20 w =>
 oU t20 w R fun t21 w =>
 cond t21 (oD 206 #[(0, (Z.i 31))] w R fun t22 w =>
 bi ((Instr.makeInterface 206 t22).run Tryz.prog w) R fun t23 w =>
 bi ((Instr.panic t23).run Tryz.prog w) R fun _ w =>
 j1 (upd (upd (upd (upd (ini [a0]) 2 t2) 3 t3) 9 t12) 17 t21) w)
 (j1 (upd (upd (upd (upd (ini [a0]) 2 t2) 3 t3) 9 t12) 17 t21) w))) fun e1 g1 w =>
 oL 209 t3 w R fun t24 w =>
 oS 209 t2 t24 w R fun _ w =>
 iY ((Instr.loadAt 209 t2).run Tryz.prog w) w fun r0 =>
 R (.returned r0) w
theorem Y0.calls {R w a0} : Y0 R w a0 → oX 166 #[a0] w R := Z.k [0,2,3,9,17]
def Y1 (a0 : Value) : Prop :=
 oC 163 #[a0] w R fun t5 w =>
 join (upd (upd (ini [a0]) 2 (Z.u 0)) 3 t5) (fun j1 =>
 oP .lss 5 t5 (Z.u 64) w R fun t7 w =>
 cond t7 (oD 206 #[(0, (Z.i 31))] w R fun t8 w =>
 bi ((Instr.makeInterface 206 t8).run Tryz.prog w) R fun t9 w =>
 bi ((Instr.panic t9).run Tryz.prog w) R fun _ w =>
 j1 (upd (upd (upd (ini [a0]) 2 (Z.u 0)) 3 t5) 7 t7) w)
 (j1 (upd (upd (upd (ini [a0]) 2 (Z.u 0)) 3 t5) 7 t7) w)) fun e1 g1 w =>
 R (.returned t5) w
theorem Y1.calls {R w a0} : Y1 R w a0 → oX 167 #[a0] w R := Z.k [0,2,3,7]
def XK (a0 : Value) : Prop :=
 oA 214 w R fun t2 w =>
 oN 24 a0 w R fun t6 w =>
 oQ true .neq 3 t6 (Z.i 2) w R fun t7 w =>
 cond t7 (oD 214 #[] w R fun t8 w =>
 oS 214 t2 t8 w R fun _ w =>
 iY ((Instr.loadAt 214 t2).run Tryz.prog w) w fun r0 =>
 R (.returned (.tuple #[r0, (.bool false)])) w)
 (oI 24 a0 (Z.i 1) w R fun t10 w =>
 oL 5 t10 w R fun t11 w =>
 oQ true .eql 5 t11 (Z.u 242) w R fun t12 w =>
 gd t12 false (fun K => K a0 w) w fun t14 w =>
 gd t12 false (fun K => oI 24 t14 (Z.i 1) w R K) w fun t15 w =>
 gd t12 false (fun K => oL 5 t15 w R K) w fun t16 w =>
 gd t12 false (fun K => oQ true .eql 5 t16 (Z.u 246) w R K) w fun t17 w =>
 pick t12 (.bool true) t17 w fun t18 w =>
 gd t18 false (fun K => K a0 w) w fun t20 w =>
 gd t18 false (fun K => oI 24 t20 (Z.i 1) w R K) w fun t21 w =>
 gd t18 false (fun K => oL 5 t21 w R K) w fun t22 w =>
 gd t18 false (fun K => oQ true .eql 5 t22 (Z.u 110) w R K) w fun t23 w =>
 pick t18 (.bool true) t23 w fun t24 w =>
 drawn w fun T w =>
 bF Ext w (fun w K => oI 24 a0 (Z.i 1) w aW K) fun t26 =>
 bF Ext w (fun w K => oL 5 t26 w aW K) fun t27 =>
 bF Ext w (fun w K => oD 214 #[(0, (Z.u 1)), (1, t27)] w aW K) fun t28 =>
 bF Ext w (fun w K => oI 24 a0 (Z.i 0) w aW K) fun t30 =>
 bF Ext w (fun w K => oL 5 t30 w aW K) fun t31 =>
 bF Ext w (fun w K => oQ true .eql 5 t31 (Z.u 255) w aW K) fun t32 =>
 bF Ext w (fun w K => gd t32 true (fun K => K a0 w) w K) fun t34 =>
 bF Ext w (fun w K => gd t32 true (fun K => oI 24 t34 (Z.i 1) w aW K) w K) fun t35 =>
 bF Ext w (fun w K => gd t32 true (fun K => oL 5 t35 w aW K) w K) fun t36 =>
 bF Ext w (fun w K => gd t32 true (fun K => oQ true .eql 5 t36 (Z.u 2) w aW K) w K) fun t37 =>
 bF Ext w (fun w K => pick t32 t37 (.bool false) w K) fun t38 =>
 bF Ext w (fun w K => gd t38 false (fun K => K a0 w) w K) fun t40 =>
 bF Ext w (fun w K => gd t38 false (fun K => oI 24 t40 (Z.i 0) w aW K) w K) fun t41 =>
 bF Ext w (fun w K => gd t38 false (fun K => oL 5 t41 w aW K) w K) fun t42 =>
 bF Ext w (fun w K => gd t38 false (fun K => oQ true .eql 5 t42 (Z.u 0) w aW K) w K) fun t43 =>
 bF Ext w (fun w K => gd t38 false (fun K => K t43 w) w K) fun t44 =>
 bF T w (fun w K => gd t44 true (fun K => K t24 w) w K) fun t45 =>
 bF T w (fun w K => gd t38 false (fun K => pick t44 t45 (.bool false) w K) w K) fun t46 =>
 bF T w (fun w K => pick t38 (.bool true) t46 w K) fun t47 =>
 ext w fun w =>
 yg T w (fun w K => oS 214 t2 t28 w R K) fun _ w =>
 ext w fun w =>
 iY ((Instr.loadAt 214 t2).run Tryz.prog w) w fun r0 =>
 R (.returned (.tuple #[r0, t47])) w)
theorem XK.calls {R w a0} : XK R w a0 → oX 168 #[a0] w R := Z.k [0,2,3,4,7]
def XM (a0 : Value) : Prop :=
 oA 214 w R fun t2 w =>
 oN 24 a0 w R fun t5 w =>
 oQ true .neq 3 t5 (Z.i 1) w R fun t6 w =>
 gd t6 false (fun K => K a0 w) w fun t8 w =>
 gd t6 false (fun K => oI 24 t8 (Z.i 0) w R K) w fun t9 w =>
 gd t6 false (fun K => oL 5 t9 w R K) w fun t10 w =>
 gd t6 false (fun K => oQ true .neq 5 t10 (Z.u 0) w R K) w fun t11 w =>
 gd t6 false (fun K => K t11 w) w fun t12 w =>
 gd t12 true (fun K => K a0 w) w fun t13 w =>
 gd t12 true (fun K => oI 24 t13 (Z.i 0) w R K) w fun t14 w =>
 gd t12 true (fun K => oL 5 t14 w R K) w fun t15 w =>
 gd t12 true (fun K => oQ true .neq 5 t15 (Z.u 128) w R K) w fun t16 w =>
 gd t6 false (fun K => pick t12 t16 (.bool false) w K) w fun t17 w =>
 pick t6 (.bool true) t17 w fun t18 w =>
 cond t18 (oD 214 #[] w R fun t19 w =>
 oS 214 t2 t19 w R fun _ w =>
 iY ((Instr.loadAt 214 t2).run Tryz.prog w) w fun r0 =>
 R (.returned (.tuple #[r0, (.bool false)])) w)
 (oI 24 a0 (Z.i 0) w R fun t21 w =>
 oL 5 t21 w R fun t22 w =>
 oD 214 #[(0, (Z.u 3)), (1, t22)] w R fun t23 w =>
 oS 214 t2 t23 w R fun _ w =>
 iY ((Instr.loadAt 214 t2).run Tryz.prog w) w fun r0 =>
 R (.returned (.tuple #[r0, (.bool true)])) w)
theorem XM.calls {R w a0} : XM R w a0 → oX 169 #[a0] w R := Z.k [0,2,3,18]
def XN (a0 : Value) : Prop :=
 oA 214 w R fun t2 w =>
 oN 24 a0 w R fun t7 w =>
 oP .lss 3 t7 (Z.i 2) w R fun t8 w =>
 gd t8 false (fun K => K a0 w) w fun t10 w =>
 gd t8 false (fun K => oI 24 t10 (Z.i 0) w R K) w fun t11 w =>
 gd t8 false (fun K => oL 5 t11 w R K) w fun t12 w =>
 gd t8 false (fun K => oQ true .neq 5 t12 (Z.u 0) w R K) w fun t13 w =>
 pick t8 (.bool true) t13 w fun t14 w =>
 cond t14 (oD 214 #[] w R fun t15 w =>
 oS 214 t2 t15 w R fun _ w =>
 iY ((Instr.loadAt 214 t2).run Tryz.prog w) w fun r0 =>
 R (.returned (.tuple #[r0, (.bool false)])) w)
 (bi ((Instr.sliceAt 24 a0 (some (Z.i 1)) none none).run Tryz.prog w) R fun t18 w =>
 oC 64 #[t18] w R fun t19 w =>
 oE t19 0 w R fun t20 w =>
 oE t19 1 w R fun t21 w =>
 oA 124 w R fun t4 w =>
 oS 124 t4 t20 w R fun _ w =>
 drawn w fun T w =>
 bF Ext w (fun w K => oL 124 t4 w aW K) fun t22 =>
 bF Ext w (fun w K => oD 214 #[(0, (Z.u 64)), (2, t22)] w aW K) fun t23 =>
 bF Ext w (fun w K => oQ true .eql 25 t21 (Z.i 0) w aW K) fun t25 =>
 bF Ext w (fun w K => gd t25 true (fun K => oF 124 t4 0 w aW K) w K) fun t27 =>
 bF Ext w (fun w K => gd t25 true (fun K => oL 5 t27 w aW K) w K) fun t28 =>
 bF Ext w (fun w K => gd t25 true (fun K => oC 181 #[t28] w aW K) w K) fun t29 =>
 bF T w (fun w K => pick t25 t29 (.bool false) w K) fun t30 =>
 ext w fun w =>
 yg T w (fun w K => oS 214 t2 t23 w R K) fun _ w =>
 ext w fun w =>
 iY ((Instr.loadAt 214 t2).run Tryz.prog w) w fun r0 =>
 R (.returned (.tuple #[r0, t30])) w)
theorem XN.calls {R w a0} : XN R w a0 → oX 170 #[a0] w R := Z.k [0,2,3,4,5,14]
def Y2 (a0 a1 : Value) : Prop :=
 oB 209 a1 w R fun t3 w =>
 join (upd (upd (upd (ini [a0, a1]) 3 t3) 4 (Z.i 0)) 5 .nilFunc) (fun j1 =>
 oG 209 t3 0 5 w R fun t8 w =>
 oQ true .eql 5 t8 (Z.u 0) w R fun t10 w =>
 cond t10 (j1 (upd (upd (upd (upd (upd (upd (ini [a0, a1]) 3 t3) 4 (Z.i 0)) 5 .nilFunc) 8 t8) 9 t10) 5 (.func (.func 182) #[] #[])) w)
 (oQ true .eql 5 t8 (Z.u 8) w R fun t12 w =>
 cond t12 (j1 (upd (upd (upd (upd (upd (upd (upd (ini [a0, a1]) 3 t3) 4 (Z.i 0)) 5 .nilFunc) 8 t8) 9 t10) 11 t12) 5 (.func (.func 183) #[] #[])) w)
 (oQ true .eql 5 t8 (Z.u 17) w R fun t14 w =>
 cond t14 (j1 (upd (upd (upd (upd (upd (upd (upd (upd (ini [a0, a1]) 3 t3) 4 (Z.i 0)) 5 .nilFunc) 8 t8) 9 t10) 11 t12) 13 t14) 5 (.func (.func 184) #[] #[])) w)
 (join (upd (upd (upd (upd (upd (upd (upd (ini [a0, a1]) 3 t3) 4 (Z.i 0)) 5 .nilFunc) 8 t8) 9 t10) 11 t12) 13 t14) (fun j2 =>
 oQ true .eql 5 t8 (Z.u 29) w R fun t16 w =>
 cond t16 (j2 (upd (upd (upd (upd (upd (upd (upd (upd (ini [a0, a1]) 3 t3) 4 (Z.i 0)) 5 .nilFunc) 8 t8) 9 t10) 11 t12) 13 t14) 15 t16) w)
 (oQ true .eql 5 t8 (Z.u 41) w R fun t17 w =>
 j2 (upd (upd (upd (upd (upd (upd (upd (upd (upd (ini [a0, a1]) 3 t3) 4 (Z.i 0)) 5 .nilFunc) 8 t8) 9 t10) 11 t12) 13 t14) 15 t16) 15 t17) w)) fun e2 g2 w =>
 cond (g2 15) (j1 (upd (mix [15] g2 e2) 5 (.func (.func 185) #[] #[])) w)
 (oQ true .eql 5 t8 (Z.u 40) w R fun t19 w =>
 cond t19 (j1 (upd (upd (mix [15] g2 e2) 18 t19) 5 (.func (.func 186) #[] #[])) w)
 (oQ true .eql 5 t8 (Z.u 44) w R fun t21 w =>
 cond t21 (j1 (upd (upd (upd (mix [15] g2 e2) 18 t19) 20 t21) 5 (.func (.func 187) #[] #[])) w)
 (oQ true .eql 5 t8 (Z.u 19) w R fun t23 w =>
 cond t23 (j1 (upd (upd (upd (upd (mix [15] g2 e2) 18 t19) 20 t21) 22 t23) 5 (.func (.func 188) #[] #[])) w)
 (oQ true .eql 5 t8 (Z.u 5) w R fun t25 w =>
 cond t25 (j1 (upd (upd (upd (upd (upd (mix [15] g2 e2) 18 t19) 20 t21) 22 t23) 24 t25) 5 (.func (.func 189) #[] #[])) w)
 (oQ true .eql 5 t8 (Z.u 60) w R fun t27 w =>
 cond t27 (j1 (upd (upd (upd (upd (upd (upd (mix [15] g2 e2) 18 t19) 20 t21) 22 t23) 24 t25) 26 t27) 5 (.func (.func 190) #[] #[])) w)
 (oQ true .eql 5 t8 (Z.u 18) w R fun t29 w =>
 cond t29 (j1 (upd (upd (upd (upd (upd (upd (upd (mix [15] g2 e2) 18 t19) 20 t21) 22 t23) 24 t25) 26 t27) 28 t29) 5 (.func (.func 191) #[] #[])) w)
 (R (.returned (Z.i 31)) w))))))))))) fun e1 g1 w =>
 oL 209 t3 w R fun t32 w =>
 AO Tryz.prog (g1 5) #[a0, t32] w R fun t33 w =>
 oG 209 t3 0 5 w R fun t36 w =>
 oQ true .eql 5 t36 (Z.u 8) w R fun t37 w =>
 gd t37 false (fun K => oF 209 t3 0 w R K) w fun t39 w =>
 gd t37 false (fun K => oL 5 t39 w R K) w fun t40 w =>
 gd t37 false (fun K => oQ true .eql 5 t40 (Z.u 0) w R K) w fun t41 w =>
 gd t37 false (fun K => K t41 w) w fun t42 w =>
 gd t42 true (fun K => oF 209 t3 5 w R K) w fun t43 w =>
 gd t42 true (fun K => oL 24 t43 w R K) w fun t44 w =>
 gd t42 true (fun K => oN 24 t44 w R K) w fun t45 w =>
 gd t42 true (fun K => oP .gtr 3 t45 (Z.i 0) w R K) w fun t46 w =>
 gd t37 false (fun K => pick t42 t46 (.bool false) w K) w fun t47 w =>
 pick t37 (.bool true) t47 w fun t48 w =>
 cu a0 w fun t49 w =>
 oF 229 t49 3 w R fun t50 w =>
 oS 4 t50 t48 w R fun _ w =>
 R (.returned t33) w
theorem Y2.calls {R w a0 a1} : Y2 R w a0 a1 → oX 171 #[a0, a1] w R := Z.k [0,1,3,4,5,6,8,9,11,13,15,18,20,22,24,26,28]
def Y3 (a0 : Value) : Prop :=
 oQ true .eql 5 a0 (Z.u 0) w R fun t4 w =>
 cond t4 (R (.returned (Z.i 0)) w)
 (R (.returned (Z.i 1)) w)
theorem Y3.calls {R w a0} : Y3 R w a0 → oX 172 #[a0] w R := Z.k [0,2,4]
def Y4 (a0 a1 a2 : Value) : Prop :=
 oB 32 a0 w R fun t3 w =>
 oB 3 a1 w R fun t4 w =>
 oB 3 a2 w R fun t5 w =>
 bi ((Instr.makeFunc (.func 197) #[] #[t3, t4, t5]).run Tryz.prog w) R fun t7 w =>
 R (.returned t7) w
theorem Y4.calls {R w a0 a1 a2} : Y4 R w a0 a1 a2 → oX 178 #[a0, a1, a2] w R := Z.k [0,1,2,3,4,5,6]
def Y5 (a0 : Value) : Prop :=
 oQ true .eql 24 a0 (.slice none 0 0) w R fun t4 w =>
 cond t4 (R (.returned (.slice none 0 0)) w)
 (bi ((Instr.buildSlice 24 0 #[]).run Tryz.prog w) R fun t5 w =>
 bi ((Builtin.append_ #[24, 24] 24 #[t5, a0]).run Tryz.prog w) R fun t7 w =>
 R (.returned t7) w)
theorem Y5.calls {R w a0} : Y5 R w a0 → oX 179 #[a0] w R := Z.k [0,2,4]
def Y6 (a0 a1 : Value) : Prop :=
 oB 240 a1 w R fun t3 w =>
 oG 240 t3 0 5 w R fun t7 w =>
 oQ true .eql 5 t7 (Z.u 65) w R fun t8 w =>
 gd t8 false (fun K => oF 240 t3 0 w R K) w fun t10 w =>
 gd t8 false (fun K => oL 5 t10 w R K) w fun t11 w =>
 gd t8 false (fun K => oQ true .eql 5 t11 (Z.u 66) w R K) w fun t12 w =>
 pick t8 (.bool true) t12 w fun t13 w =>
 join (upd (upd (upd (ini [a0, a1]) 3 t3) 4 (Z.i 0)) 5 t13) (fun j1 =>
 join (upd (upd (upd (upd (ini [a0, a1]) 3 t3) 4 (Z.i 0)) 5 t13) 14 a0) (fun j2 =>
 oQ true .eql 5 a0 (Z.u 41) w R fun t16 w =>
 cond t16 (j2 (upd (upd (upd (upd (upd (ini [a0, a1]) 3 t3) 4 (Z.i 0)) 5 t13) 14 a0) 15 t16) w)
 (oQ true .eql 5 a0 (Z.u 44) w R fun t17 w =>
 j2 (upd (upd (upd (upd (upd (upd (ini [a0, a1]) 3 t3) 4 (Z.i 0)) 5 t13) 14 a0) 15 t16) 15 t17) w)) fun e2 g2 w =>
 cond (g2 15) (gd t13 false (fun K => oF 240 t3 0 w R K) w fun t20 w =>
 gd t13 false (fun K => oL 5 t20 w R K) w fun t21 w =>
 gd t13 false (fun K => oQ true .eql 5 t21 (Z.u 192) w R K) w fun t22 w =>
 pick t13 (.bool true) t22 w fun t23 w =>
 cond t23 (R (.returned (Z.i 0)) w)
 (j1 (upd (mix [15] g2 e2) 23 t23) w))
 (oQ true .eql 5 a0 (Z.u 40) w R fun t25 w =>
 cond t25 (gd t13 false (fun K => oF 240 t3 0 w R K) w fun t28 w =>
 gd t13 false (fun K => oL 5 t28 w R K) w fun t29 w =>
 gd t13 false (fun K => oQ true .eql 5 t29 (Z.u 0) w R K) w fun t30 w =>
 gd t13 false (fun K => K t30 w) w fun t31 w =>
 gd t31 true (fun K => oF 240 t3 1 w R K) w fun t32 w =>
 gd t31 true (fun K => oL 5 t32 w R K) w fun t33 w =>
 gd t31 true (fun K => oQ true .eql 5 t33 (Z.u 0) w R K) w fun t34 w =>
 gd t13 false (fun K => pick t31 t34 (.bool false) w K) w fun t35 w =>
 pick t13 (.bool true) t35 w fun t36 w =>
 cond t36 (R (.returned (Z.i 0)) w)
 (j1 (upd (upd (mix [15] g2 e2) 24 t25) 36 t36) w))
 (j1 (upd (mix [15] g2 e2) 24 t25) w))) fun e1 g1 w =>
 R (.returned (Z.i 33)) w
theorem Y6.calls {R w a0 a1} : Y6 R w a0 a1 → oX 180 #[a0, a1] w R := Z.k [0,1,3,4,5,14,15,23,24,36]
def XA (a0 : Value) : Prop :=
 oC 103 #[a0] w R fun t4 w =>
 gd t4 false (fun K => K a0 w) w fun t6 w =>
 gd t4 false (fun K => oQ true .eql 5 t6 (Z.u 111) w R K) w fun t7 w =>
 pick t4 (.bool true) t7 w fun t8 w =>
 R (.returned t8) w
theorem XA.calls {R w a0} : XA R w a0 → oX 181 #[a0] w R := Z.k [0,2]
def Y7 (a0 a1 : Value) : Prop :=
 oB 209 a1 w R fun t3 w =>
 join (upd (upd (ini [a0, a1]) 3 t3) 4 (Z.i 0)) (fun j1 =>
 oG 209 t3 5 24 w R fun t8 w =>
 oN 24 t8 w R fun t9 w =>
 loop (upd (upd (upd (upd (upd (ini [a0, a1]) 3 t3) 4 (Z.i 0)) 8 t8) 9 t9) 10 (Z.i 0)) w fun e2 g2 w j2 =>
 oP .lss 3 (g2 10) t9 w R fun t11 w =>
 cond t11 (oI 24 t8 (g2 10) w R fun t12 w =>
 oL 5 t12 w R fun t13 w =>
 oC 199 #[a0, t13, (.bool false)] w R fun t17 w =>
 oC 198 #[a0, t17] w R fun t18 w =>
 oP .add 3 (g2 10) (Z.i 1) w R fun t19 w =>
 j2 (upd (upd (upd (mix [11,6,10] g2 e2) 11 t11) 6 t13) 10 t19) w)
 (j1 (upd (mix [11,6,10] g2 e2) 11 t11) w)) fun e1 g1 w =>
 R (.returned (Z.i 0)) w
theorem Y7.calls {R w a0 a1} : Y7 R w a0 a1 → oX 182 #[a0, a1] w R := Z.k [0,1,3,4,6,8,9,10,11]
def Y8 (a0 a1 : Value) : Prop :=
 oB 209 a1 w R fun t3 w =>
 oG 209 t3 2 5 w R fun t8 w =>
 oC 199 #[a0, t8, (.bool true)] w R fun t9 w =>
 oC 198 #[a0, t9] w R fun t10 w =>
 R (.returned (Z.i 0)) w
theorem Y8.calls {R w a0 a1} : Y8 R w a0 a1 → oX 183 #[a0, a1] w R := Z.k [0,1,3,4]
def Y9 (a0 a1 : Value) : Prop :=
 oB 209 a1 w R fun t3 w =>
 drawn w fun T w =>
 qG T w 209 t3 1 3 fun t6 =>
 bF T w (fun w K => oP .lss 3 t6 (Z.i 0) w aW K) fun t7 =>
 bF T w (fun w K => gd t7 false (fun K => oF 209 t3 1 w aW K) w K) fun t9 =>
 bF T w (fun w K => gd t7 false (fun K => oL 3 t9 w aW K) w K) fun t10 =>
 bF T w (fun w K => gd t7 false (fun K => K a0 w) w K) fun t11 =>
 bF T w (fun w K => gd t7 false (fun K => cu t11 w K) w K) fun t12 =>
 bF T w (fun w K => gd t7 false (fun K => oF 229 t12 0 w aW K) w K) fun t13 =>
 bF T w (fun w K => gd t7 false (fun K => oL 33 t13 w aW K) w K) fun t14 =>
 bF T w (fun w K => gd t7 false (fun K => oC 30 #[t14] w aW K) w K) fun t15 =>
 bF T w (fun w K => gd t7 false (fun K => oP .geq 3 t10 t15 w aW K) w K) fun t16 =>
 bF T w (fun w K => pick t7 (.bool true) t16 w K) fun t17 =>
 ext w fun w =>
 cond t17 (R (.returned (Z.i 32)) w)
 (oG 209 t3 1 3 w R fun t20 w =>
 cu a0 w fun t21 w =>
 oF 229 t21 1 w R fun t22 w =>
 oS 3 t22 t20 w R fun _ w =>
 R (.returned (Z.i 0)) w)
theorem Y9.calls {R w a0 a1} : Y9 R w a0 a1 → oX 184 #[a0, a1] w R := Z.k [0,1,3,4,17]
def Za (a0 a1 : Value) : Prop :=
 oB 209 a1 w R fun t3 w =>
 oD 37 #[(2, (.bool true))] w R fun t6 w =>
 oA 37 w R fun t5 w =>
 oS 37 t5 t6 w R fun _ w =>
 join (upd (upd (upd (ini [a0, a1]) 3 t3) 4 (Z.i 0)) 5 t5) (fun j1 =>
 oG 209 t3 0 5 w R fun t8 w =>
 oQ true .eql 5 t8 (Z.u 29) w R fun t9 w =>
 cond t9 (oG 209 t3 2 5 w R fun t11 w =>
 oP .and 5 t11 (Z.u 63) w R fun t12 w =>
 oF 37 t5 0 w R fun t13 w =>
 oS 5 t13 t12 w R fun _ w =>
 j1 (upd (upd (upd (upd (ini [a0, a1]) 3 t3) 4 (Z.i 0)) 5 t5) 9 t9) w)
 (oL 37 t5 w R fun t14 w =>
 oG 209 t3 4 207 w R fun t16 w =>
 oC 200 #[t14, t16] w R fun t17 w =>
 oS 37 t5 t17 w R fun _ w =>
 j1 (upd (upd (upd (upd (ini [a0, a1]) 3 t3) 4 (Z.i 0)) 5 t5) 9 t9) w)) fun e1 g1 w =>
 oL 37 t5 w R fun t19 w =>
 oC 198 #[a0, t19] w R fun t20 w =>
 R (.returned (Z.i 0)) w
theorem Za.calls {R w a0 a1} : Za R w a0 a1 → oX 185 #[a0, a1] w R := Z.k [0,1,3,4,5,9]
def Zb (a0 a1 : Value) : Prop :=
 oB 209 a1 w R fun t3 w =>
 drawn w fun T w =>
 bF T w (fun w K => cu a0 w K) fun t7 =>
 qG T w 229 t7 2 37 fun t9 =>
 qG T w 209 t3 4 207 fun t11 =>
 bF T w (fun w K => oC 200 #[t9, t11] w aW K) fun t12 =>
 bF T w (fun w K => cu a0 w K) fun t13 =>
 bF T w (fun w K => oF 229 t13 2 w aW K) fun t14 =>
 ext w fun w =>
 oS 37 t14 t12 w R fun _ w =>
 ext w fun w =>
 R (.returned (Z.i 0)) w
theorem Zb.calls {R w a0 a1} : Zb R w a0 a1 → oX 186 #[a0, a1] w R := Z.k [0,1,3,4]
def Zc (a0 a1 : Value) : Prop :=
 oB 209 a1 w R fun t3 w =>
 drawn w fun T w =>
 bF T w (fun w K => cu a0 w K) fun t7 =>
 qG T w 229 t7 0 33 fun t9 =>
 bF T w (fun w K => cu a0 w K) fun t11 =>
 qG T w 229 t11 1 3 fun t13 =>
 bF T w (fun w K => oC 31 #[t9, t13] w aW K) fun t14 =>
 ext w fun w =>
 yg T w (fun w K => oA 37 w R K) fun t5 w =>
 ext w fun w =>
 oS 37 t5 t14 w R fun _ w =>
 ext w fun w =>
 oG 37 t5 2 4 w R fun t16 w =>
 oU t16 w R fun t17 w =>
 cond t17 (R (.returned (Z.i 31)) w)
 (oL 37 t5 w R fun t19 w =>
 oG 209 t3 4 207 w R fun t21 w =>
 oC 200 #[t19, t21] w R fun t22 w =>
 oC 198 #[a0, t22] w R fun t23 w =>
 R (.returned (Z.i 0)) w)
theorem Zc.calls {R w a0 a1} : Zc R w a0 a1 → oX 187 #[a0, a1] w R := Z.k [0,1,3,4,5,17]
def Zd (a0 a1 : Value) : Prop :=
 oB 209 a1 w R fun t3 w =>
 drawn w fun T w =>
 bF T w (fun w K => cu a0 w K) fun t6 =>
 qG T w 229 t6 0 33 fun t8 =>
 bF T w (fun w K => cu a0 w K) fun t10 =>
 qG T w 229 t10 1 3 fun t12 =>
 ext w fun w =>
 oC 36 #[t8, t12] w R fun t13 w =>
 ext w fun w =>
 R (.returned (Z.i 0)) w
theorem Zd.calls {R w a0 a1} : Zd R w a0 a1 → oX 188 #[a0, a1] w R := Z.k [0,1,4]
def Ze (a0 a1 : Value) : Prop :=
 oB 209 a1 w R fun t3 w =>
 join (upd (ini [a0, a1]) 4 (Z.i 0)) (fun j1 =>
 cu a0 w fun t8 w =>
 oG 229 t8 3 4 w R fun t10 w =>
 cond t10 (oC 201 #[a0] w R fun t12 w =>
 j1 (upd (upd (ini [a0, a1]) 4 (Z.i 0)) 10 t10) w)
 (j1 (upd (upd (ini [a0, a1]) 4 (Z.i 0)) 10 t10) w)) fun e1 g1 w =>
 join (mix [10] g1 e1) (fun j2 =>
 cu a0 w fun t14 w =>
 oG 229 t14 1 3 w R fun t16 w =>
 loop (upd (mix [10] g1 e1) 5 t16) w fun e3 g3 w j3 =>
 cu a0 w fun t19 w =>
 oG 229 t19 0 33 w R fun t21 w =>
 oC 30 #[t21] w R fun t22 w =>
 oP .lss 3 (g3 5) t22 w R fun t23 w =>
 cond t23 (cu a0 w fun t27 w =>
 oG 229 t27 0 33 w R fun t29 w =>
 oC 31 #[t29, (g3 5)] w R fun t31 w =>
 oA 37 w R fun t6 w =>
 oS 37 t6 t31 w R fun _ w =>
 oG 37 t6 2 4 w R fun t33 w =>
 gd t33 true (fun K => oF 37 t6 0 w R K) w fun t35 w =>
 gd t33 true (fun K => oL 5 t35 w R K) w fun t36 w =>
 gd t33 true (fun K => oC 136 #[t36] w R K) w fun t37 w =>
 gd t33 true (fun K => oU t37 w R K) w fun t38 w =>
 pick t33 t38 (.bool false) w fun t39 w =>
 cond t39 (cu a0 w fun t42 w =>
 oG 229 t42 0 33 w R fun t44 w =>
 oC 112 #[t44] w R fun t45 w =>
 oC 111 #[t45, (g3 5), (Z.i 1)] w R fun t47 w =>
 cu a0 w fun t48 w =>
 oF 229 t48 1 w R fun t49 w =>
 oS 3 t49 t47 w R fun _ w =>
 R (.returned (Z.i 0)) w)
 (oP .add 3 (g3 5) (Z.i 1) w R fun t25 w =>
 j3 (upd (upd (upd (upd (mix [23,6,39,4,5] g3 e3) 23 t23) 6 t6) 39 t39) 5 t25) w))
 (j2 (upd (mix [23,6,39,4,5] g3 e3) 23 t23) w)) fun e2 g2 w =>
 cu a0 w fun t51 w =>
 oF 229 t51 1 w R fun t52 w =>
 oS 3 t52 (Z.i 0) w R fun _ w =>
 R (.returned (Z.i 0)) w
theorem Ze.calls {R w a0 a1} : Ze R w a0 a1 → oX 189 #[a0, a1] w R := Z.k [0,1,4,5,6,10,23,39]
def Zf (a0 a1 : Value) : Prop :=
 oB 209 a1 w R fun t3 w =>
 cu a0 w fun t8 w =>
 oG 229 t8 1 3 w R fun t10 w =>
 oL 209 t3 w R fun t12 w =>
 oC 184 #[a0, t12] w R fun t13 w =>
 oQ true .neq 25 t13 (Z.i 0) w R fun t15 w =>
 cond t15 (R (.returned t13) w)
 (drawn w fun T w =>
 bF T w (fun w K => cu a0 w K) fun t18 =>
 qG T w 229 t18 0 33 fun t20 =>
 bF T w (fun w K => cu a0 w K) fun t23 =>
 qG T w 229 t23 1 3 fun t25 =>
 qG T w 209 t3 2 5 fun t28 =>
 qG T w 209 t3 3 4 fun t30 =>
 bF T w (fun w K => oC 199 #[a0, t28, t30] w aW K) fun t31 =>
 ext w fun w =>
 oC 157 #[t20, t10, t25, t31] w R fun t32 w =>
 ext w fun w =>
 R (.returned (Z.i 0)) w)
theorem Zf.calls {R w a0 a1} : Zf R w a0 a1 → oX 190 #[a0, a1] w R := Z.k [0,1,3,4,5,6,15]
def Zg (a0 a1 : Value) : Prop :=
 bi ((Instr.box 227 a0).run Tryz.prog w) (fP R) fun t2 w =>
 bi ((Instr.box 209 a1).run Tryz.prog w) (fP R) fun t3 w =>
 bi ((Instr.loadAt 227 t2).run Tryz.prog w) (fP R) fun t8 w =>
 cu t8 w fun t9 w =>
 bi ((Instr.fieldAt 229 t9 1).run Tryz.prog w) (fP R) fun t10 w =>
 bi ((Instr.loadAt 3 t10).run Tryz.prog w) (fP R) fun t11 w =>
 bi ((Instr.loadAt 227 t2).run Tryz.prog w) (fP R) fun t12 w =>
 bi ((Instr.loadAt 209 t3).run Tryz.prog w) (fP R) fun t13 w =>
 kF Tryz.prog 184 #[t12, t13] w (fP R) fun t14 w =>
 bi ((pO true .neq 25 t14 (Z.i 0)).run Tryz.prog w) (fP R) fun t16 w =>
 cond t16 (lQ (xE undef) w fun w => R (.returned t14) w)
 (join (upd (upd (upd (upd (upd (upd (ini [a0, a1]) 2 t2) 3 t3) 4 (Z.i 0)) 5 t11) 6 t14) 16 t16) (fun j1 =>
 drawn w fun T w =>
 bF T w (fun w K => oL 227 t2 w aW K) fun t18 =>
 bF T w (fun w K => cu t18 w K) fun t19 =>
 qG T w 229 t19 0 33 fun t21 =>
 bF T w (fun w K => oC 112 #[t21] w aW K) fun t22 =>
 bF T w (fun w K => oL 227 t2 w aW K) fun t24 =>
 bF T w (fun w K => cu t24 w K) fun t25 =>
 qG T w 229 t25 1 3 fun t27 =>
 ext w fun w =>
 kF Tryz.prog 178 #[t22, t11, t27] w (fP R) fun t28 w =>
 ext w fun w =>
 vF Tryz.prog t28 1 w (fun l2 xs2 w mid2 fin2 =>
 mid2 (fun w => oL 227 t2 w aW fun t30 w =>
 cu t30 w fun t31 w =>
 oF 229 t31 0 w aW fun t32 w =>
 oL 33 t32 w aW fun t33 w =>
 oC 117 #[t33, (xs2.getD 0 undef)] w aW fun t35 w =>
 cond t35 (oL 227 t2 w aW fun t36 w =>
 cu t36 w fun t37 w =>
 oF 229 t37 0 w aW fun t38 w =>
 oL 33 t38 w aW fun t39 w =>
 oD 37 #[] w aW fun t41 w =>
 oC 14 #[t39, (xs2.getD 0 undef), t41] w aW fun t42 w =>
 fin2 .normal w)
 (fin2 .normal w)) w)
 (fun D w => j1 (upd (upd (upd (upd (upd (upd (upd (upd (ini [a0, a1]) 2 t2) 3 t3) 4 (Z.i 0)) 5 t11) 6 t14) 16 t16) 28 t28) 1000000 (mkV D undef)) w)
 []) fun e1 g1 w =>
 lQ (xE (g1 1000000)) w fun w => R (.returned (Z.i 0)) w)
theorem Zg.calls {R w a0 a1} : Zg R w a0 a1 → oX 191 #[a0, a1] w R := Z.k [0,1,2,3,4,5,6,7,16,28,29,35]
def Zh (a0 a1 a2 a3 : Value) : Prop :=
 oL 32 a1 w R fun t7 w =>
 oC 43 #[t7] w R fun t8 w =>
 oL 3 a2 w R fun t9 w =>
 oP .lss 3 t9 (Z.i 0) w R fun t10 w =>
 gd t10 false (fun K => oL 3 a2 w R K) w fun t12 w =>
 gd t10 false (fun K => K t8 w) w fun t13 w =>
 gd t10 false (fun K => oP .geq 3 t12 t13 w R K) w fun t14 w =>
 pick t10 (.bool true) t14 w fun t15 w =>
 gd t15 false (fun K => oL 3 a3 w R K) w fun t17 w =>
 gd t15 false (fun K => oP .lss 3 t17 (Z.i 0) w R K) w fun t18 w =>
 pick t15 (.bool true) t18 w fun t19 w =>
 gd t19 false (fun K => oL 3 a3 w R K) w fun t21 w =>
 gd t19 false (fun K => K t8 w) w fun t22 w =>
 gd t19 false (fun K => oP .geq 3 t21 t22 w R K) w fun t23 w =>
 pick t19 (.bool true) t23 w fun t24 w =>
 cond t24 (R (.returned (.tuple #[])) w)
 (oL 3 a2 w R fun t25 w =>
 loop (upd (upd (upd (ini [a0, a1, a2, a3]) 5 t8) 24 t24) 6 t25) w fun e1 g1 w j1 =>
 AO Tryz.prog a0 #[(g1 6)] w R fun t28 w =>
 cond t28 (oL 32 a1 w R fun t29 w =>
 oC 111 #[t29, (g1 6), (Z.i 1)] w R fun t31 w =>
 oL 3 a3 w R fun t33 w =>
 oQ false .eql 3 t31 t33 w R fun t34 w =>
 cond t34 (R (.returned (.tuple #[])) w)
 (j1 (upd (upd (upd (mix [28,6,34] g1 e1) 28 t28) 6 t31) 34 t34) w))
 (R (.returned (.tuple #[])) w))
theorem Zh.calls {R w a0 a1 a2 a3} : Zh R w a0 a1 a2 a3 → oX 197 #[a0, a1, a2, a3] w R := Z.k [0,1,2,3,5,6,24,28,34]
def Zi (a0 a1 : Value) : Prop :=
 oB 37 a1 w R fun t3 w =>
 drawn w fun T w =>
 bF T w (fun w K => cu a0 w K) fun t5 =>
 qG T w 229 t5 0 33 fun t7 =>
 bF T w (fun w K => cu a0 w K) fun t9 =>
 qG T w 229 t9 1 3 fun t11 =>
 bF T w (fun w K => oL 37 t3 w aW K) fun t12 =>
 ext w fun w =>
 oC 14 #[t7, t11, t12] w R fun t13 w =>
 ext w fun w =>
 oC 204 #[a0] w R fun t15 w =>
 R (.returned (.tuple #[])) w
theorem Zi.calls {R w a0 a1} : Zi R w a0 a1 → oX 198 #[a0, a1] w R := Z.k [0,1,3]
def Zj (a0 a1 a2 : Value) : Prop :=
 oA 37 w R fun t6 w =>
 drawn w fun T w =>
 bF T w (fun w K => cu a0 w K) fun t10 =>
 bF T w (fun w K => oF 229 t10 2 w aW K) fun t11 =>
 qG T w 37 t11 3 5 fun t13 =>
 bF T w (fun w K => cu a0 w K) fun t15 =>
 bF T w (fun w K => oF 229 t15 2 w aW K) fun t16 =>
 qG T w 37 t16 4 5 fun t18 =>
 bF T w (fun w K => oD 37 #[(0, a1), (1, a2), (3, t13), (4, t18)] w aW K) fun t19 =>
 ext w fun w =>
 oS 37 t6 t19 w R fun _ w =>
 ext w fun w =>
 iY ((Instr.loadAt 37 t6).run Tryz.prog w) w fun r0 =>
 R (.returned r0) w
theorem Zj.calls {R w a0 a1 a2} : Zj R w a0 a1 a2 → oX 199 #[a0, a1, a2] w R := Z.k [0,1,2,6]
def Zk (a0 a1 : Value) : Prop :=
 oB 37 a0 w R fun t2 w =>
 oA 37 w R fun t4 w =>
 join (upd (upd (ini [a0, a1]) 2 t2) 4 t4) (fun j1 =>
 oN 207 a1 w R fun t8 w =>
 loop (upd (upd (upd (upd (upd (ini [a0, a1]) 2 t2) 4 t4) 7 a1) 8 t8) 9 (Z.i 0)) w fun e2 g2 w j2 =>
 oP .lss 3 (g2 9) t8 w R fun t10 w =>
 cond t10 (join (upd (mix [10,6,14,15,21,26,31,9] g2 e2) 10 t10) (fun j3 =>
 oI 207 a1 (g2 9) w R fun t11 w =>
 oL 240 t11 w R fun t12 w =>
 oA 240 w R fun t6 w =>
 oS 240 t6 t12 w R fun _ w =>
 oG 240 t6 0 5 w R fun t14 w =>
 oQ true .eql 5 t14 (Z.u 192) w R fun t16 w =>
 cond t16 (oG 240 t6 1 5 w R fun t18 w =>
 oP .and 5 t18 (Z.u 63) w R fun t19 w =>
 oF 37 t2 0 w R fun t20 w =>
 oS 5 t20 t19 w R fun _ w =>
 j3 (upd (upd (upd (upd (mix [10,6,14,15,21,26,31,9] g2 e2) 10 t10) 6 t6) 14 t14) 15 t16) w)
 (oQ true .eql 5 t14 (Z.u 65) w R fun t22 w =>
 cond t22 (oG 240 t6 1 5 w R fun t24 w =>
 oF 37 t2 3 w R fun t25 w =>
 oS 5 t25 t24 w R fun _ w =>
 j3 (upd (upd (upd (upd (upd (mix [10,6,14,15,21,26,31,9] g2 e2) 10 t10) 6 t6) 14 t14) 15 t16) 21 t22) w)
 (oQ true .eql 5 t14 (Z.u 66) w R fun t27 w =>
 cond t27 (oG 240 t6 1 5 w R fun t29 w =>
 oF 37 t2 4 w R fun t30 w =>
 oS 5 t30 t29 w R fun _ w =>
 j3 (upd (upd (upd (upd (upd (upd (mix [10,6,14,15,21,26,31,9] g2 e2) 10 t10) 6 t6) 14 t14) 15 t16) 21 t22) 26 t27) w)
 (oQ true .eql 5 t14 (Z.u 0) w R fun t32 w =>
 cond t32 (oF 37 t2 3 w R fun t33 w =>
 oS 5 t33 (Z.u 0) w R fun _ w =>
 oF 37 t2 4 w R fun t34 w =>
 oS 5 t34 (Z.u 0) w R fun _ w =>
 j3 (upd (upd (upd (upd (upd (upd (upd (mix [10,6,14,15,21,26,31,9] g2 e2) 10 t10) 6 t6) 14 t14) 15 t16) 21 t22) 26 t27) 31 t32) w)
 (j3 (upd (upd (upd (upd (upd (upd (upd (mix [10,6,14,15,21,26,31,9] g2 e2) 10 t10) 6 t6) 14 t14) 15 t16) 21 t22) 26 t27) 31 t32) w))))) fun e3 g3 w =>
 oP .add 3 (g2 9) (Z.i 1) w R fun t35 w =>
 j2 (upd (mix [6,14,15,21,26,31] g3 e3) 9 t35) w)
 (j1 (upd (mix [10,6,14,15,21,26,31,9] g2 e2) 10 t10) w)) fun e1 g1 w =>
 oL 37 t2 w R fun t36 w =>
 oS 37 t4 t36 w R fun _ w =>
 iY ((Instr.loadAt 37 t4).run Tryz.prog w) w fun r0 =>
 R (.returned r0) w
theorem Zk.calls {R w a0 a1} : Zk R w a0 a1 → oX 200 #[a0, a1] w R := Z.k [0,1,2,4,6,7,8,9,10,14,15,21,26,31]
def Zl (a0 : Value) : Prop :=
 cu a0 w fun t4 w =>
 oG 229 t4 1 3 w R fun t6 w =>
 loop (upd (ini [a0]) 2 t6) w fun e1 g1 w j1 =>
 cu a0 w fun t9 w =>
 oG 229 t9 0 33 w R fun t11 w =>
 oC 30 #[t11] w R fun t12 w =>
 oP .lss 3 (g1 2) t12 w R fun t13 w =>
 gd t13 true (fun K => K a0 w) w fun t15 w =>
 gd t13 true (fun K => cu t15 w K) w fun t16 w =>
 gd t13 true (fun K => oF 229 t16 0 w R K) w fun t17 w =>
 gd t13 true (fun K => oL 33 t17 w R K) w fun t18 w =>
 gd t13 true (fun K => K (g1 2) w) w fun t19 w =>
 gd t13 true (fun K => oC 31 #[t18, t19] w R K) w fun t20 w =>
 gd t13 true (fun K => bi ((Instr.field 37 t20 2).run Tryz.prog w) R K) w fun t21 w =>
 gd t13 true (fun K => oU t21 w R K) w fun t22 w =>
 pick t13 t22 (.bool false) w fun t23 w =>
 cond t23 (cu a0 w fun t27 w =>
 oG 229 t27 0 33 w R fun t29 w =>
 oD 37 #[] w R fun t31 w =>
 oC 14 #[t29, (g1 2), t31] w R fun t32 w =>
 oP .add 3 (g1 2) (Z.i 1) w R fun t25 w =>
 j1 (upd (upd (mix [23,2] g1 e1) 23 t23) 2 t25) w)
 (R (.returned (.tuple #[])) w)
theorem Zl.calls {R w a0} : Zl R w a0 → oX 201 #[a0] w R := Z.k [0,2,23]
def Zm (a0 : Value) : Prop :=
 drawn w fun T w =>
 bF T w (fun w K => cu a0 w K) fun t4 =>
 qG T w 229 t4 0 33 fun t6 =>
 bF T w (fun w K => oC 112 #[t6] w aW K) fun t7 =>
 bF T w (fun w K => cu a0 w K) fun t9 =>
 qG T w 229 t9 1 3 fun t11 =>
 bF T w (fun w K => oC 111 #[t7, t11, (Z.i 1)] w aW K) fun t12 =>
 bF T w (fun w K => cu a0 w K) fun t13 =>
 bF T w (fun w K => oF 229 t13 1 w aW K) fun t14 =>
 ext w fun w =>
 oS 3 t14 t12 w R fun _ w =>
 ext w fun w =>
 R (.returned (.tuple #[])) w
theorem Zm.calls {R w a0} : Zm R w a0 → oX 204 #[a0] w R := Z.k [0]
end
end Go.Proofs.YtjdoakbadehicaaGreatDoor
end
section
namespace Gs
def zK : List Int := [0, 1, 2, 3, 156, 9, 134, 127, 151, 141, 142, 11, 12, 13, 14, 15, 16, 17, 18, 19, 157, 133, 8, 135, 24, 25, 146, 143, 28, 29, 30, 31, 128, 129, 130, 131, 132, 10, 23, 27, 136, 137, 138, 139, 140, 5, 6, 7, 144, 145, 22, 147, 148, 149, 150, 4, 152, 153, 154, 155, 20, 21, 158, 26, 32, 160, 226, 228, 224, 225, 227, 229, 231, 241, 162, 46, 60, 40, 43, 124, 38, 233, 234, 235, 232, 237, 238, 239, 236, 223, 33, 36, 42, 41, 59, 172, 45, 47, 194, 196, 192, 193, 195, 197, 199, 209, 166, 44, 37, 95, 62, 63, 248, 201, 202, 203, 200, 205, 206, 207, 204, 96, 58, 35, 64, 39, 61, 34, 216, 97, 98, 99, 100, 101, 102, 103, 104, 105, 171, 187, 240, 253, 254, 177, 176, 106, 107, 108, 109, 110, 111, 112, 113, 114, 170, 186, 230, 184, 198, 164, 181, 126, 115, 116, 117, 118, 119, 120, 121, 122, 161, 191, 208, 221, 222, 174, 94, 163, 165, 183, 169, 167, 182, 188, 189, 190, 91, 93, 175, 168, 180, 215, 123, 65, 66, 67, 68, 69, 70, 71, 72, 73, 173, 244, 246, 242, 243, 245, 125, 74, 75, 76, 77, 78, 79, 80, 81, 82, 185, 251, 252, 249, 250, 255, 92, 247, 83, 84, 85, 86, 87, 88, 89, 90, 178, 212, 214, 210, 211, 213, 48, 49, 50, 51, 52, 53, 54, 55, 56, 57, 179, 219, 220, 217, 218, 159]
def lw (page : Int) : List (Int × Int) :=
 if page = 500 then [(0x4A, 0x5B), (0x4F, 0x21), (0x5A, 0x5D), (0x5F, 0x5E), (0xB0, 0xA2), (0xBA, 0xAC), (0xBB, 0x7C)]
 else if page = 1047 then [(0x5F, 0x5E), (0xAD, 0x5B), (0xB0, 0xAC), (0xBA, 0xDD), (0xBB, 0xA8), (0xBD, 0x5D)]
 else []
def LY (l : List (Int × Int)) (b : Int) : Int := match l.find? (fun p => p.1 == b) with | some p => p.2 | none => zK.getD b.toNat 0
def sign (page b : Int) : Int := LY (lw page) b
def Fz (l : List (Int × Int)) : List Int := (List.range 256).map fun i : Nat => LY l (i : Int)
def tab (page : Int) : List Int := Fz (lw page)
theorem QB : zK.length = 256 := by decide +kernel
theorem DV (page : Int) : lw page = lw 500 ∨ lw page = lw 1047 ∨ lw page = [] := by
 unfold lw
 split
 ·exact .inl rfl
 ·split
  ·exact .inr (.inl rfl)
  ·exact .inr (.inr rfl)
def am5 (l : List (Int × Int)) : Bool := (List.range l.length).all fun k => match l[k]? with
 | some p => decide (0 ≤ p.1) && decide (p.1 < 256) && decide (0 ≤ p.2) && decide (p.2 < 256) && decide ((Fz (l.take k)).set p.1.toNat p.2 = Fz (l.take (k + 1)))
 | none => false
theorem ac2 (page : Int) : (lw page).length ≤ 7 := by
 rcases DV page with h | h | h <;> rw [h] <;> decide
theorem X3 (page : Int) : am5 (lw page) = true := by
 rcases DV page with h | h | h <;> rw [h] <;> decide +kernel
theorem RZ : zK.all (fun x => decide (0 ≤ x) && decide (x < 256)) = true := by decide +kernel
theorem aaS {i : Nat} {x : Int} (h : zK[i]? = some x) : 0 ≤ x ∧ x < 256 := by
 have hl : i < zK.length := (List.getElem?_eq_some_iff.1 h).1
 have := List.all_eq_true.1 RZ x (List.mem_of_getElem? h)
 simpa using this
theorem ac3 {page : Int} {k : Nat} {p : Int × Int} (h : (lw page)[k]? = some p) :
  0 ≤ p.1 ∧ p.1 < 256 ∧ 0 ≤ p.2 ∧ p.2 < 256 ∧ (Fz ((lw page).take k)).set p.1.toNat p.2 = Fz ((lw page).take (k + 1)) := by
 have hl : k < (lw page).length := (List.getElem?_eq_some_iff.1 h).1
 have := List.all_eq_true.1 (X3 page) k (by simpa using hl)
 rw [h] at this
 simp only [Bool.and_eq_true, decide_eq_true_eq] at this
 exact ⟨this.1.1.1.1, this.1.1.1.2, this.1.1.2, this.1.2, this.2⟩
def ndB : List Nat → Nat → Bool
 | [], _ => true
 | x :: xs, m => (match m.testBit x with | true => false | false => ndB xs (m ||| (1 <<< x)))
def aeN (l : List (Int × Int)) : Bool := (Fz l).all (fun x => decide (0 ≤ x) && decide (x < 256)) && ndB ((Fz l).map Int.toNat) 0
theorem Vl (page : Int) : aeN (lw page) = true := by
 rcases DV page with h | h | h <;> rw [h] <;> decide +kernel
theorem aaU {page : Int} {x : Int} (h : x ∈ tab page) : 0 ≤ x ∧ x < 256 := by
 have := Vl page
 simp only [aeN, Bool.and_eq_true] at this
 simpa using List.all_eq_true.1 this.1 x h
theorem X4 {page b : Int} (h0 : 0 ≤ b) (h1 : b < 256) : 0 ≤ sign page b ∧ sign page b < 256 := by
 apply aaU (page := page)
 have : sign page ((b.toNat : Nat) : Int) ∈ tab page := List.mem_map.2 ⟨b.toNat, by simp; omega, rfl⟩
 rw [Int.toNat_of_nonneg h0] at this
 exact this
theorem aaT {page b x : Int} (h : (lw page).find? (fun p => p.1 == b) = none) (hx : zK[b.toNat]? = some x) : x = sign page b := by
 simp [sign, LY, h, List.getD, hx]
theorem aaQ {page b : Int} {p : Int × Int} (h : (lw page).find? (fun p => p.1 == b) = some p) : p.2 = sign page b := by
 simp [sign, LY, h]
def value (c : Int) : Int := if 65 ≤ c then c - 55 else c - 48
end Gs
end
section
namespace Gs
structure Cell where
 b : Int
 ge : Bool
 st : Bool
 l : Int
 c : Int
deriving DecidableEq
def zc : Cell := ⟨0, false, false, 0, 0⟩
def cv (x : Cell) : List Go.Value := [.int .u8 x.b, .bool x.ge, .bool x.st, .int .u8 x.l, .int .u8 x.c]
theorem yu : Go.Sh.Enc cv 5 := ⟨fun _ => rfl, fun a u hu => by
 simp only [cv, List.mem_cons, List.mem_nil_iff, or_false] at hu
 rcases hu with rfl | rfl | rfl | rfl | rfl <;> rfl, by decide⟩
def Cw (x : Cell) : Prop := 0 ≤ x.b ∧ x.b ≤ 255
def jh (cs : List Cell) : Prop := ∀ x ∈ cs, Cw x
theorem jh.get {cs : List Cell} (h : jh cs) {i : Nat} {x : Cell} (hx : cs[i]? = some x) : 0 ≤ x.b ∧ x.b ≤ 255 := h x (List.mem_of_getElem? hx)
theorem jh.set {cs : List Cell} (h : jh cs) {x : Cell} (hx : Cw x) (i : Nat) : jh (cs.set i x) := fun y hy => by
 rcases List.mem_or_eq_of_mem_set hy with hy | rfl
 ·exact h y hy
 ·exact hx
theorem jh.rep (n : Nat) : jh (List.replicate n zc) := fun x hx => by rw [List.eq_of_mem_replicate hx]; exact ⟨by decide, by decide⟩
def aZ (r c : Int) : Int := if r < 1 ∨ 43 < r ∨ c < 1 ∨ 132 < c ∨ 4096 < r * c then 0 else r * c
theorem Ux {r c : Int} (h : ¬ r < 1) (h1 : ¬ 43 < r) (h2 : ¬ c < 1) (h3 : ¬ 132 < c) : 1 ≤ r * c ∧ r * c ≤ 5676 := by
 have a1 : 1 * 1 ≤ r * c := Int.mul_le_mul (by omega) (by omega) (by omega) (by omega)
 have a2 : r * c ≤ 43 * 132 := Int.mul_le_mul (by omega) (by omega) (by omega) (by omega)
 omega
theorem Jv {r c : Int} (h : r < 1 ∨ 43 < r ∨ c < 1 ∨ 132 < c) : 0 = aZ r c := by
 unfold aZ; rw [if_pos (by omega)]
theorem ahA {r c : Int} (h : ¬ r < 1) (h1 : ¬ 43 < r) (h2 : ¬ c < 1) (h3 : ¬ 132 < c) (h4 : 4096 < Go.IntKind.i64.wrap (r * c)) : 0 = aZ r c := by
 have hb := Ux h h1 h2 h3
 rw [Go.Sh.wrap_i64 (by omega) (by omega)] at h4
 unfold aZ; rw [if_pos (by omega)]
theorem ahB {r c : Int} (h : ¬ r < 1) (h1 : ¬ 43 < r) (h2 : ¬ c < 1) (h3 : ¬ 132 < c) (h4 : ¬ 4096 < Go.IntKind.i64.wrap (r * c)) : Go.IntKind.i64.wrap (r * c) = aZ r c := by
 have hb := Ux h h1 h2 h3
 rw [Go.Sh.wrap_i64 (by omega) (by omega)] at h4 ⊢
 unfold aZ; rw [if_neg (by omega)]
theorem zk (r c : Int) : 0 ≤ aZ r c ∧ aZ r c ≤ 4096 := by
 unfold aZ
 split
 ·omega
 ·have := Ux (r := r) (c := c) (by omega) (by omega) (by omega) (by omega)
  omega
def jb (cs : List Cell) (at' : Int) (x : Cell) : List Cell := if 0 ≤ at' ∧ at' < cs.length then cs.set at'.toNat x else cs
theorem mi (cs : List Cell) (i : Int) (x : Cell) : (jb cs i x).length = cs.length := by unfold jb; split <;> simp
theorem Jl {cs : List Cell} {i : Int} (x : Cell) (h0 : 0 ≤ i) (h1 : i < cs.length) : jb cs i x = cs.set i.toNat x := by unfold jb; rw [if_pos ⟨h0, h1⟩]
theorem KG {cs : List Cell} {i : Int} (x : Cell) (h : ¬ (0 ≤ i ∧ i < cs.length)) : jb cs i x = cs := by unfold jb; rw [if_neg h]
theorem jh.jb {cs : List Cell} (h : jh cs) {x : Cell} (hx : Cw x) (i : Int) : jh (Gs.jb cs i x) := by
 unfold Gs.jb; split
 ·exact h.set hx _
 ·exact h
def bV (cs : List Cell) (i : Int) : Cell := if 0 ≤ i ∧ i < cs.length then cs.getD i.toNat zc else zc
theorem ahC {cs : List Cell} {i : Int} {x : Cell} (h0 : 0 ≤ i) (h : cs[i.toNat]? = some x) : bV cs i = x := by
 have := (List.getElem?_eq_some_iff.1 h).1
 unfold bV; rw [if_pos (by omega)]; simp [List.getD, h]
theorem xh {cs : List Cell} {i : Int} (h : ¬ (0 ≤ i ∧ i < cs.length)) : bV cs i = zc := by unfold bV; rw [if_neg h]
def Dp (n a b : Int) : Int := if n = 0 then 0 else (a + b) % n
theorem Jw (x : Int) {n : Int} (h : 0 < n) : -n < x.tmod n ∧ x.tmod n < n := ⟨Int.lt_tmod_of_pos x h, Int.tmod_lt_of_pos x h⟩
theorem I8 (x : Int) {n : Int} (h : 0 < n) : (x.tmod n) % n = x % n := by
 rw [Int.tmod_def]
 have : x - n * x.tdiv n = x + n * (- x.tdiv n) := by rw [Int.mul_neg]; omega
 rw [this]
 simp
theorem ahD {n a b : Int} (h : 0 < n) : (((a.tmod n + b.tmod n).tmod n) + n).tmod n = Dp n a b := by
 have h1 := Jw (a.tmod n + b.tmod n) h
 unfold Dp
 rw [if_neg (by omega), Int.tmod_eq_emod_of_nonneg (by omega), Int.add_emod_right, I8 _ h, Int.add_emod, I8 _ h, I8 _ h, ← Int.add_emod]
def nC (n i j : Int) : Nat := if i < 0 ∨ n ≤ i ∨ j < 0 ∨ n ≤ j then 0 else (if j - i ≤ 0 then j - i + n else j - i).toNat
def qB (n i j : Int) : List Int := (List.range (nC n i j)).map fun k : Nat => (i + k) % n
theorem Lc (n i j : Int) : (qB n i j).length = nC n i j := by simp [qB]
theorem Xa {n i j : Int} {k : Nat} (h : k < nC n i j) : (qB n i j)[k]? = some ((i + k) % n) := by simp [qB, h]
theorem Td {n i j : Int} {k : Nat} {x : Int} (h : (qB n i j)[k]? = some x) : 0 ≤ x ∧ x < n := by
 have hk := (List.getElem?_eq_some_iff.1 h).1
 rw [Lc] at hk
 rw [Xa hk] at h
 have hx : (i + k) % n = x := by simpa using h
 unfold nC at hk
 split at hk
 ·simp at hk
 ·have h1 := Int.emod_nonneg (i + k) (by omega : n ≠ 0)
  have h2 := Int.emod_lt_of_pos (i + k) (by omega : 0 < n)
  omega
theorem ahE {r c i j : Int} : (nC (aZ r c) i j : Int) ≤ aZ r c ∧ aZ r c ≤ 4096 := by
 have hb := zk r c
 unfold nC
 split
 ·omega
 ·split <;> omega
def su (cs : List Cell) (l : List Int) (x : Cell) : List Cell := l.foldl (fun cs i => cs.set i.toNat x) cs
theorem SV (cs : List Cell) (l : List Int) (x : Cell) : (su cs l x).length = cs.length := by
 induction l generalizing cs with
 | nil => rfl
 | cons i l ih => simp only [su, List.foldl_cons] at *; rw [ih]; simp
theorem acd {cs : List Cell} {l : List Int} {x : Cell} {k : Nat} {i : Int} (h : l[k]? = some i) : (su cs (l.take k) x).set i.toNat x = su cs (l.take (k + 1)) x := by
 rw [List.take_add_one, h]; simp [su, List.foldl_append]
theorem jh.fill {cs : List Cell} (h : jh cs) {x : Cell} (hx : Cw x) (l : List Int) : jh (su cs l x) := by
 induction l generalizing cs with
 | nil => exact h
 | cons i l ih => exact ih (h.set hx _)
theorem Nu {n i j : Int} (h : i < 0 ∨ n ≤ i ∨ j < 0 ∨ n ≤ j) : nC n i j = 0 := by unfold nC; rw [if_pos h]
theorem Uu {n i j : Int} (h : ¬ (i < 0 ∨ n ≤ i ∨ j < 0 ∨ n ≤ j)) : (nC n i j : Int) = if j - i ≤ 0 then j - i + n else j - i := by
 unfold nC; rw [if_neg h]; split <;> omega
theorem behind {n i : Int} {k : Nat} (h : (k : Int) < n) : ((i + k) % n - i) % n = k := by
 rw [Int.emod_sub_emod, show i + (k : Int) - i = k by omega]
 exact Int.emod_eq_of_lt (by omega) h
theorem ajK {n i : Int} {k : Nat} (h : 0 < n) : Dp n ((i + k) % n) 1 = (i + (k + 1 : Nat)) % n := by
 unfold Dp
 rw [if_neg (by omega), Int.emod_add_emod]
 congr 1
 omega
theorem Uw {n i j : Int} (h : ¬ (i < 0 ∨ n ≤ i ∨ j < 0 ∨ n ≤ j)) {k : Nat} (hk : k < nC n i j) : ((i + (k + 1 : Nat)) % n = j) ↔ k + 1 = nC n i j := by
 have hb := Uu h
 have hl : (nC n i j : Int) ≤ n ∧ 0 < (nC n i j : Int) := by rw [hb]; split <;> omega
 have e1 : j = (i + (nC n i j : Nat)) % n := by
  rw [hb]
  split
  ·rw [show i + (j - i + n) = j + n by omega, Int.add_emod_right, Int.emod_eq_of_lt (by omega) (by omega)]
  ·rw [show i + (j - i) = j by omega, Int.emod_eq_of_lt (by omega) (by omega)]
 constructor
 ·intro he
  have h1 : ((i + (nC n i j : Nat)) - (i + (k + 1 : Nat))) % n = 0 := by rw [Int.sub_emod, ← e1, he]; simp
  rw [show (i + ((nC n i j : Nat) : Int)) - (i + ((k + 1 : Nat) : Int)) = (nC n i j : Nat) - (k + 1 : Nat) by omega, Int.emod_eq_of_lt (by omega) (by omega)] at h1
  omega
 ·intro he
  rw [he]; exact e1.symm
end Gs
end
section
namespace Go.Proofs.YtjdoakbadehicaaGreatDoor
open Go Go.Sh
set_option maxRecDepth 100000
theorem qA {r c : Int} {w : World} :
    oX 43 #[.agg #[Z.i r, Z.i c]] w fun e w' => e = .returned (Z.i (Gs.aZ r c)) ∧ aA no w w' := by
 refine F43.calls ?_
 unfold F43
 have hF : aA no w w := Fr.refl _ _ _
 refine Z.x _ (fun b1 w1 e1 ah _ U1 => ?_)
 refine Z.f 0 ?_
 refine Z.l ah ?_
 refine Z.f 1 ?_
 refine Z.l ah ?_
 refine ak (ad4 _ _ _ _) ?_
 refine Z.f 0 ?_
 refine Z.l ah ?_
 refine az (lss _ _ _ _) (fun h2 => ?_) (fun h2 => ?_)
 refine bu (bu (bu (aT (bu (bu (bu (aT (bu (bu (bu (aT (bu (bu (aT (aJ ?_)))))))))))))))
 replace hF := hF.go0 U1
 exact ⟨nD (Gs.Jv (by omega)), hF⟩
 refine bD ?_
 refine Z.f 0 ?_
 refine bD ?_
 refine Z.l ah ?_
 refine bD ?_
 refine az (gtr _ _ _ _) (fun h4 => ?_) (fun h4 => ?_)
 refine aU (bu (bu (bu (aT (bu (bu (bu (aT (bu (bu (aT (aJ ?_))))))))))))
 replace hF := hF.go0 U1
 exact ⟨nD (Gs.Jv (by omega)), hF⟩
 refine aU (bD ?_)
 refine Z.f 1 ?_
 refine bD ?_
 refine Z.l ah ?_
 refine bD ?_
 refine az (lss _ _ _ _) (fun h6 => ?_) (fun h6 => ?_)
 refine aU (bu (bu (bu (aT (bu (bu (aT (aJ ?_))))))))
 replace hF := hF.go0 U1
 exact ⟨nD (Gs.Jv (by omega)), hF⟩
 refine aU (bD ?_)
 refine Z.f 1 ?_
 refine bD ?_
 refine Z.l ah ?_
 refine bD ?_
 refine az (gtr _ _ _ _) (fun h8 => ?_) (fun h8 => ?_)
 refine aU (bu (bu (aT (aJ ?_))))
 replace hF := hF.go0 U1
 exact ⟨nD (Gs.Jv (by omega)), hF⟩
 refine aU (bD (bD ?_))
 refine az (gtr _ _ _ _) (fun h10 => ?_) (fun h10 => ?_)
 refine aU (aJ ?_)
 replace hF := hF.go0 U1
 exact ⟨nD (Gs.ahA (by assumption) (by assumption) (by assumption) (by assumption) (by assumption)), hF⟩
 refine aU (aC ?_)
 replace hF := hF.go0 U1
 exact ⟨nD (Gs.ahB (by assumption) (by assumption) (by assumption) (by assumption) (by assumption)), hF⟩
theorem Ee {r c cur : Int} {A : Option Addr} {n cp bp B0 : Nat} {cs : List Gs.Cell} {w : World} (ag : Z.h w bp #[Z.i r, Z.i c, .slice A n cp, Z.i cur] 91) (ae : Own B0 w 37 5 (.slice A n cp) (rows Gs.cv cs)) (hn : n = cs.length) {i : Int} :
    oX 45 #[Z.p bp, Z.i i] w fun e w' => e = .returned (.bool (decide (0 ≤ i ∧ i < cs.length))) ∧ aA no w w' := by
 refine F45.calls ?_
 unfold F45
 have hF : aA no w w := Fr.refl _ _ _
 refine az (geq _ _ _ _) (fun h1 => ?_) (fun h1 => ?_)
 refine aX (aX (aX ?_))
 refine dw ?_
 refine aX ?_
 refine Z.f 2 ?_
 refine aX ?_
 refine Z.l ag ?_
 refine aX ?_
 refine ak (gZ (by kernel_rfl) _ _ _) ?_
 refine aX ?_
 refine ak (lss _ _ _ _) ?_
 refine aT ?_
 exact ⟨yL (by omega), hF⟩
 refine aQ (aQ (aQ (aQ (aQ (aQ (aQ (aU ?_)))))))
 exact ⟨KC (by omega), hF⟩
theorem fG {r c cur : Int} {A : Option Addr} {n cp bp B0 : Nat} {cs : List Gs.Cell} {w : World} (ag : Z.h w bp #[Z.i r, Z.i c, .slice A n cp, Z.i cur] 91) (ae : Own B0 w 37 5 (.slice A n cp) (rows Gs.cv cs)) (hn : n = cs.length)  :
    oX 30 #[Z.p bp] w fun e w' => e = .returned (Z.i n) ∧ aA no w w' := by
 refine F30.calls ?_
 unfold F30
 have hF : aA no w w := Fr.refl _ _ _
 refine dw ?_
 refine Z.f 2 ?_
 refine Z.l ag ?_
 refine ak (gZ (by kernel_rfl) _ _ _) ?_
 exact ⟨rfl, hF⟩
theorem eF {r c cur : Int} {A : Option Addr} {n cp bp B0 : Nat} {cs : List Gs.Cell} {w : World} (ag : Z.h w bp #[Z.i r, Z.i c, .slice A n cp, Z.i cur] 91) (ae : Own B0 w 37 5 (.slice A n cp) (rows Gs.cv cs)) (hn : n = cs.length)  :
    oX 24 #[Z.p bp] w fun e w' => e = .returned (Z.i cur) ∧ aA no w w' := by
 refine F24.calls ?_
 unfold F24
 have hF : aA no w w := Fr.refl _ _ _
 refine dw ?_
 refine Z.f 3 ?_
 refine Z.l ag ?_
 exact ⟨rfl, hF⟩
theorem jS {r c cur : Int} {A : Option Addr} {n cp bp B0 : Nat} {cs : List Gs.Cell} {w : World} (ag : Z.h w bp #[Z.i r, Z.i c, .slice A n cp, Z.i cur] 91) (ae : Own B0 w 37 5 (.slice A n cp) (rows Gs.cv cs)) (hn : n = cs.length)  :
    oX 112 #[Z.p bp] w fun e w' => e = .returned (.agg #[Z.i r, Z.i c]) ∧ aA no w w' := by
 refine Yq.calls ?_
 unfold Yq
 have hF : aA no w w := Fr.refl _ _ _
 refine Z.n (#[Z.i 0, Z.i 0]) (fun b1 w1 e1 ah _ U1 => ?_)
 have bZ : w.heap.size ≤ b1 := by have := hF.size; omega
 refine dw ?_
 refine Z.f 0 ?_
 replace ag := U1.af ag
 refine Z.b 2 _ ag ?_
 refine gK (n := 2) (by kernel_rfl) (by rfl) (by (simp [Value.cells, Value.oneCell', Gs.cv]; done)) ah (Nat.le_of_ble_eq_true rfl) (by (simp; rfl)) (fun w2 ah _ U2 => ?_)
 refine Z.a 2 ah ?_
 replace hF := (hF.go0 U1).go1 U2 bZ
 exact ⟨rfl, hF⟩
theorem iF {r c cur : Int} {A : Option Addr} {n cp bp B0 : Nat} {cs : List Gs.Cell} {w : World} (ag : Z.h w bp #[Z.i r, Z.i c, .slice A n cp, Z.i cur] 91) (ae : Own B0 w 37 5 (.slice A n cp) (rows Gs.cv cs)) (hn : n = cs.length) {i : Int} :
    oX 31 #[Z.p bp, Z.i i] w fun e w' => e = .returned (.agg (Gs.cv (Gs.bV cs i)).toArray) ∧ aA no w w' := by
 refine F31.calls ?_
 unfold F31
 have hF : aA no w w := Fr.refl _ _ _
 refine Z.n ((Gs.cv Gs.zc).toArray) (fun b1 w1 e1 ah _ U1 => ?_)
 have bZ : w.heap.size ≤ b1 := by have := hF.size; omega
 replace ae := ae.ai U1
 replace ag := U1.af ag
 refine dQ (Ee ag ae hn) (fun w2 U2 h2 => ?_) (fun w2 U2 h2 => ?_)
 simp only [Z.d, Z.c] at h2
 refine ak (lV) ?_
 refine aC ?_
 refine dw ?_
 refine Z.f 2 ?_
 replace ag := U2.af ag
 refine Z.l ag ?_
 replace ae := ae.ai U2
 refine sW Gs.yu (by kernel_rfl) (by kernel_rfl) ae.Bl (by assumption) (by omega) (by omega) (fun x3 hx3 => ?_)
 replace ah := U2.af ah
 refine Z.t 5 ((Gs.cv x3).toArray) (by (simp [Value.cells, Value.oneCell', Gs.cv]; done)) ah (fun w4 ah _ U4 => ?_)
 refine Z.a 5 ah ?_
 replace hF := ((hF.go0 U1).go0 U2).go1 U4 bZ
 rw [Gs.ahC (by omega) hx3]; exact ⟨rfl, hF⟩
 simp only [Z.d, Z.c] at h2
 refine ak (nI) ?_
 refine aJ ?_
 refine ak (bG (l := [(0, 1), (1, 1), (2, 1), (3, 1), (4, 1)]) (z := #[Z.u 0, .bool false, .bool false, Z.u 0, Z.u 0]) (cs := (Gs.cv Gs.zc)) (by kernel_rfl) (by rfl)) ?_
 replace ah := U2.af ah
 refine Z.t 5 ((Gs.cv Gs.zc).toArray) (by (simp [Value.cells, Value.oneCell', Gs.cv]; done)) ah (fun w6 ah _ U6 => ?_)
 refine Z.a 5 ah ?_
 replace hF := ((hF.go0 U1).go0 U2).go1 U6 bZ
 rw [Gs.xh (by assumption)]; exact ⟨rfl, hF⟩
theorem jv {r c cur : Int} {A : Option Addr} {n cp bp B0 : Nat} {cs : List Gs.Cell} {w : World} (ag : Z.h w bp #[Z.i r, Z.i c, .slice A n cp, Z.i cur] 91) (ae : Own B0 w 37 5 (.slice A n cp) (rows Gs.cv cs)) (hn : n = cs.length) {i : Int} {x : Gs.Cell} :
    oX 14 #[Z.p bp, Z.i i, .agg (Gs.cv x).toArray] w fun e w' => ∃ v, e = .returned v ∧ v = .bool (decide (0 ≤ i ∧ i < cs.length)) ∧ Own B0 w' 37 5 (.slice A n cp) (rows Gs.cv (Gs.jb cs i x)) ∧ aA (aH (.slice A n cp)) w w' := by
 refine F14.calls ?_
 unfold F14
 have hF : aA (aH (.slice A n cp)) w w := Fr.refl _ _ _
 refine Z.x ((Gs.cv x).toArray) (fun b1 w1 e1 ah _ U1 => ?_)
 replace ae := ae.ai U1
 replace ag := U1.af ag
 refine dQ (Ee ag ae hn) (fun w2 U2 h2 => ?_) (fun w2 U2 h2 => ?_)
 simp only [Z.d, Z.c] at h2
 refine ak (lV) ?_
 refine aC ?_
 refine dS (S := no) (fun w3 U3 => ?_)
 refine fV ?_
 refine Z.g 2 ?_
 replace ag := U3.af (U2.af ag)
 refine Z.m ag ?_
 replace ah := U3.af (U2.af ah)
 refine bJ (fun w' hw' => by have ah := hw'.af ah; exact (Bv (n := 5) (cs' := (Gs.cv x).toArray) (by kernel_rfl) ah (Nat.le_of_ble_eq_true rfl) (by rfl))) ?_
 replace ae := (ae.ai U2).ai U3
 obtain ⟨g4, hg4, _⟩ := ae.at (by rw [iC Gs.yu]; omega)
 subst hg4
 refine bJ (fun w' hw' => (JS (n := 5) (by kernel_rfl) (by omega) (by omega))) ?_
 refine aI (fun w5 U5 => ?_)
 replace ae := ae.ai U5
 refine P8 (i := i) Gs.yu (by kernel_rfl) ae (by omega) (by omega) rfl (fun w6 ae _ U6 => ?_)
 replace hF := (((hF.go0 U1).go0 U2).go0 U3).go0 U5
 replace hF := hF.go U6 (fun i h hs => by exact hs)
 refine aI (fun w7 U7 => ?_)
 replace ae := ae.ai U7
 replace hF := hF.go0 U7
 exact ⟨_, rfl, by rw [decide_eq_true (by omega)], by rw [Gs.Jl x (by omega) (by omega)]; exact ae, hF⟩
 simp only [Z.d, Z.c] at h2
 refine ak (nI) ?_
 refine aJ ?_
 replace hF := (hF.go0 U1).go0 U2
 replace ae := ae.ai U2
 exact ⟨_, rfl, by rw [decide_eq_false (by assumption)], by rw [Gs.KG x (by assumption)]; exact ae, hF⟩
theorem qR {r c cur : Int} {A : Option Addr} {n cp bp B0 : Nat} {cs : List Gs.Cell} {w : World} (ag : Z.h w bp #[Z.i r, Z.i c, .slice A n cp, Z.i cur] 91) (ae : Own B0 w 37 5 (.slice A n cp) (rows Gs.cv cs)) (hn : n = cs.length) {i : Int} :
    oX 36 #[Z.p bp, Z.i i] w fun e w' => ∃ v, e = .returned v ∧ v = .bool (decide (0 ≤ i ∧ i < cs.length)) ∧ Z.h w' bp #[Z.i r, Z.i c, .slice A n cp, Z.i (if 0 ≤ i ∧ i < cs.length then i else cur)] 91 ∧ aA (· = bp) w w' := by
 refine F36.calls ?_
 unfold F36
 have hF : aA (· = bp) w w := Fr.refl _ _ _
 refine dQ (Ee ag ae hn) (fun w1 U1 h1 => ?_) (fun w1 U1 h1 => ?_)
 simp only [Z.d, Z.c] at h1
 refine ak (lV) ?_
 refine aC ?_
 refine dw ?_
 refine Z.f 3 ?_
 replace ag := U1.af ag
 refine Z.s ag (fun w2 ag _ U2 => ?_)
 replace hF := hF.go0 U1
 replace hF := hF.go U2 (fun i _ h => h)
 exact ⟨_, rfl, by rw [decide_eq_true (by omega)], by rw [if_pos (by omega)]; exact ag, hF⟩
 simp only [Z.d, Z.c] at h1
 refine ak (nI) ?_
 refine aJ ?_
 replace ag := U1.af ag
 replace hF := hF.go0 U1
 exact ⟨_, rfl, by rw [decide_eq_false (by assumption)], by rw [if_neg (by assumption)]; exact ag, hF⟩
theorem mJ {r c i j : Int} {w : World} :
    oX 111 #[.agg #[Z.i r, Z.i c], Z.i i, Z.i j] w fun e w' => e = .returned (Z.i (Gs.Dp (Gs.aZ r c) i j)) ∧ aA no w w' := by
 refine Yp.calls ?_
 unfold Yp
 have hcb := Gs.zk r c
 have hF : aA no w w := Fr.refl _ _ _
 refine Z.x _ (fun b1 w1 e1 ah _ U1 => ?_)
 refine Z.b 2 _ ah ?_
 refine aB (qA) (fun w2 U2 => ?_)
 refine az (cZ _ _ _ _ _) (fun h3 => ?_) (fun h3 => ?_)
 refine aJ ?_
 replace hF := (hF.go0 U1).go0 U2
 exact ⟨nD (by unfold Gs.Dp; rw [if_pos (by omega)]), hF⟩
 refine aC ?_
 refine dS (S := no) (fun w5 U5 => ?_)
 refine bJ (fun w' hw' => (Sr _ (by omega) (by omega))) ?_
 refine bJ (fun w' hw' => (Sr _ (by omega) (by omega))) ?_
 have m1 := Gs.Jw i (show 0 < Gs.aZ r c by omega)
 have m2 := Gs.Jw j (show 0 < Gs.aZ r c by omega)
 refine bJ (fun w' hw' => (dK _ (by omega))) ?_
 refine bJ (fun w' hw' => (Sr _ (by omega) (by omega))) ?_
 have m3 := Gs.Jw (i.tmod (Gs.aZ r c) + j.tmod (Gs.aZ r c)) (show 0 < Gs.aZ r c by omega)
 refine bJ (fun w' hw' => (dK _ (by omega))) ?_
 refine bJ (fun w' hw' => (Sr _ (by omega) (by omega))) ?_
 refine aI (fun w6 U6 => ?_)
 replace hF := (((hF.go0 U1).go0 U2).go0 U5).go0 U6
 exact ⟨nD (Gs.ahD (by omega)), hF⟩
theorem EJ {r c i j : Int} {w : World} :
    oX 178 #[.agg #[Z.i r, Z.i c], Z.i i, Z.i j] w fun e w' => ∃ v, e = .returned v ∧ ∃ b3 b4 b5, v = .func (.func 197) #[] #[Z.p b3, Z.p b4, Z.p b5] ∧ w.heap.size ≤ b3 ∧ w.heap.size ≤ b4 ∧ w.heap.size ≤ b5 ∧ Z.h w' b3 #[Z.i r, Z.i c] 32 ∧ Z.h w' b4 #[Z.i i] 3 ∧ Z.h w' b5 #[Z.i j] 3 ∧ aA no w w' := by
 refine Y4.calls ?_
 unfold Y4
 have hF : aA no w w := Fr.refl _ _ _
 refine Z.x _ (fun b1 w1 e1 ah _ U1 => ?_)
 have bZ : w.heap.size ≤ b1 := by have := hF.size; omega
 refine Z.x _ (fun b2 w2 e2 ax _ U2 => ?_)
 replace hF := hF.go0 U1
 have eQ : w.heap.size ≤ b2 := by have := hF.size; omega
 refine Z.x _ (fun b3 w3 e3 bC _ U3 => ?_)
 replace hF := hF.go0 U2
 have jF : w.heap.size ≤ b3 := by have := hF.size; omega
 refine ak (mkF _ _ _) ?_
 replace ah := U3.af (U2.af ah)
 replace ax := U3.af ax
 replace hF := hF.go0 U3
 exact ⟨_, rfl, b1, b2, b3, rfl, bZ, eQ, jF, ah, ax, bC, hF⟩
theorem Ci {r c i j : Int} {b3 b4 b5 : Nat} {y : Value} {J : Nat → World → Prop} {X : World → Prop} {w : World} (hcap : ∀ k w', J k w' → Z.h w' b3 #[Z.i r, Z.i c] 32 ∧ Z.h w' b4 #[Z.i i] 3 ∧ Z.h w' b5 #[Z.i j] 3) (hst : ∀ k w' w'', J k w' → aA no w' w'' → J k w'') (hy : ∀ k w' x, (Gs.qB (Gs.aZ r c) i j)[k]? = some x → J k w' → EC Tryz.prog y #[Z.i x] w' (J (k + 1)) X) (h0 : J 0 w) :
    oX 197 #[y, Z.p b3, Z.p b4, Z.p b5] w fun e w' => (∃ v, e = .returned v) ∧ (J (Gs.qB (Gs.aZ r c) i j).length w' ∨ X w') := by
 refine Zh.calls ?_
 unfold Zh
 have hcb := Gs.zk r c
 rw [Gs.Lc]
 obtain ⟨bC, eu, bY⟩ := hcap _ _ h0
 refine Z.b 2 _ bC ?_
 refine aB (qA) (fun w1 U1 => ?_)
 replace h0 := hst _ _ _ h0 U1
 replace eu := U1.af eu
 refine Z.l eu ?_
 refine az (lss _ _ _ _) (fun h2 => ?_) (fun h2 => ?_)
 refine bu (bu (bu (aT (bu (bu (aT (bu (bu (bu (aT (aJ ?_)))))))))))
 exact ⟨⟨_, rfl⟩, .inl (by rw [Gs.Nu (by omega)]; exact h0)⟩
 refine bD ?_
 refine Z.l eu ?_
 refine bD (bD ?_)
 refine az (geq _ _ _ _) (fun h4 => ?_) (fun h4 => ?_)
 refine aU (bu (bu (aT (bu (bu (bu (aT (aJ ?_))))))))
 exact ⟨⟨_, rfl⟩, .inl (by rw [Gs.Nu (by omega)]; exact h0)⟩
 refine aU (bD ?_)
 replace bY := U1.af bY
 refine Z.l bY ?_
 refine bD ?_
 refine az (lss _ _ _ _) (fun h6 => ?_) (fun h6 => ?_)
 refine aU (bu (bu (bu (aT (aJ ?_)))))
 exact ⟨⟨_, rfl⟩, .inl (by rw [Gs.Nu (by omega)]; exact h0)⟩
 refine aU (bD ?_)
 refine Z.l bY ?_
 refine bD (bD ?_)
 refine az (geq _ _ _ _) (fun h8 => ?_) (fun h8 => ?_)
 refine aU (aJ ?_)
 exact ⟨⟨_, rfl⟩, .inl (by rw [Gs.Nu (by omega)]; exact h0)⟩
 refine aU (aC ?_)
 refine Z.l eu ?_
 refine ed (fun g w' => ∃ k : Nat, k < Gs.nC (Gs.aZ r c) i j ∧ g 6 = Z.i ((i + k) % Gs.aZ r c) ∧ J k w') (fun g w' => Gs.nC (Gs.aZ r c) i j - ((RowKit.intOf (g 6) - i) % Gs.aZ r c).toNat) ?_ (fun g1 wl1 hI => ?_)
 have hb := Gs.Uu (n := Gs.aZ r c) (i := i) (j := j) (by omega)
 exact ⟨0, by split at hb <;> omega, by show Value.int _ _ = _; rw [Int.emod_eq_of_lt (by omega) (by omega)]; simp, h0⟩
 obtain ⟨k, hk, g6, hJ⟩ := hI
 rw [g6]
 have hb1 := Gs.Uu (n := Gs.aZ r c) (i := i) (j := j) (by omega)
 have hkn : (k : Int) + 1 ≤ Gs.aZ r c := by split at hb1 <;> omega
 refine FH (hy k _ _ (Gs.Xa hk) hJ) (fun wy10 hJ2 => ?_) (fun wy10 hX => ?_)
 replace bC := U1.af bC
 obtain ⟨bC, eu, bY⟩ := hcap _ _ hJ2
 refine aJ ?_
 refine Z.b 2 _ bC ?_
 refine aB (mJ) (fun nR bK => ?_)
 replace hJ2 := hst _ _ _ hJ2 bK
 rw [Gs.ajK (by omega)]
 replace bY := bK.af bY
 refine Z.l bY ?_
 refine az (cZ _ _ _ _ _) (fun h12 => ?_) (fun h12 => ?_)
 refine aJ ?_
 exact ⟨⟨_, rfl⟩, .inl (by rw [← (Gs.Uw (n := Gs.aZ r c) (i := i) (j := j) (by omega) hk).1 (by assumption)]; exact hJ2)⟩
 refine aC ?_
 have he := Gs.Uw (n := Gs.aZ r c) (i := i) (j := j) (by omega) hk
 have hk1 : k + 1 < Gs.nC (Gs.aZ r c) i j := by by_cases hq : k + 1 = Gs.nC (Gs.aZ r c) i j; exact absurd (he.2 hq) (by assumption); omega
 refine ⟨⟨k + 1, hk1, rfl, hJ2⟩, ?_⟩
 have m1 := Gs.behind (n := Gs.aZ r c) (i := i) (k := k) (by omega)
 have m2 := Gs.behind (n := Gs.aZ r c) (i := i) (k := k + 1) (by split at hb1 <;> omega)
 show Gs.nC _ _ _ - ((RowKit.intOf (Value.int _ _) - i) % _).toNat < Gs.nC _ _ _ - ((RowKit.intOf (Value.int _ _) - i) % _).toNat
 simp only [RowKit.intOf]
 rw [m1, m2]
 omega
 refine aC ?_
 exact ⟨⟨_, rfl⟩, .inr hX⟩
theorem yz {r c : Int} {w : World} (hz : (Gs.aZ r c) ≠ 0) :
    oX 33 #[.agg #[Z.i r, Z.i c]] w fun e w' => ∃ v, e = .returned v ∧ ∃ bp g, v = .tuple #[Z.p bp, Z.i 0] ∧ w.heap.size ≤ bp ∧ Z.h w' bp #[Z.i r, Z.i c, .slice (some ⟨g, 0, none⟩) (Gs.aZ r c).toNat (Gs.aZ r c).toNat, Z.i 0] 91 ∧ Own w.heap.size w' 37 5 (.slice (some ⟨g, 0, none⟩) (Gs.aZ r c).toNat (Gs.aZ r c).toNat) (rows Gs.cv (List.replicate (Gs.aZ r c).toNat Gs.zc)) ∧ aA no w w' := by
 refine F33.calls ?_
 unfold F33
 have hcb := Gs.zk r c
 have hF : aA no w w := Fr.refl _ _ _
 refine Z.x _ (fun b1 w1 e1 ah _ U1 => ?_)
 have bZ : w.heap.size ≤ b1 := by have := hF.size; omega
 replace hF := hF.go0 U1
 refine Z.b 2 _ ah ?_
 refine aB (qA) (fun w2 U2 => ?_)
 replace ah := U2.af ah
 replace hF := hF.go0 U2
 refine ny (cZ _ _ _ _ _) (hz) ?_
 refine aC ?_
 refine dS (S := no) (fun w3 U3 => ?_)
 replace ah := U3.af ah
 replace hF := hF.go0 U3
 refine bJ (fun w' hw' => by have ah := hw'.af ah; exact (Bv (n := 2) (by kernel_rfl) ah (Nat.le_of_ble_eq_true rfl) (by rfl))) ?_
 refine aI (fun w4 U4 => ?_)
 replace ah := U4.af ah
 replace hF := hF.go0 U4
 refine jm ?_
 refine ad6 (e := 37) (bytes := 5) (z := Gs.zc) Gs.yu (by kernel_rfl) (by kernel_rfl) (by omega) (by omega) (fun b5 w5 e5 yB _ U5 => ?_)
 have gB : b1 ≠ b5 := by have := au ah; omega
 have ik : w.heap.size ≤ b5 := by have := hF.size; omega
 replace yB := yB.mono (B' := w.heap.size) (by have := hF.size; omega)
 replace ah := U5.af ah
 replace hF := hF.go0 U5
 refine ⟨U5, ?_⟩
 refine bJ (fun w' hw' => (bG (l := [(0, 2), (2, 1), (3, 1)]) (z := #[Z.i 0, Z.i 0, .slice none 0 0, Z.i 0]) (by kernel_rfl) (by (simp [eP, splice, gu, Value.cells]; rfl)))) ?_
 refine aI (fun w6 U6 => ?_)
 replace yB := yB.ai U6
 replace ah := U6.af ah
 replace hF := hF.go0 U6
 refine Z.x _ (fun b7 w7 e7 kW _ U7 => ?_)
 have Fh : b1 ≠ b7 := by have := au ah; omega
 have ajL := yB.apart e7
 have uH : w.heap.size ≤ b7 := by have := hF.size; omega
 replace yB := yB.ai U7
 replace ah := U7.af ah
 replace hF := hF.go0 U7
 refine aI (fun w8 U8 => ?_)
 replace yB := yB.ai U8
 replace ah := U8.af ah
 replace kW := U8.af kW
 replace hF := hF.go0 U8
 exact ⟨_, rfl, _, _, rfl, by assumption, by assumption, by assumption, hF⟩
theorem Iq {r c cur : Int} {A : Option Addr} {n cp bp B0 : Nat} {cs : List Gs.Cell} {w : World} (ag : Z.h w bp #[Z.i r, Z.i c, .slice A n cp, Z.i cur] 91) (ae : Own B0 w 37 5 (.slice A n cp) (rows Gs.cv cs)) (hn : n = cs.length) {i j : Int} {x : Gs.Cell} (hN : Gs.aZ r c = n) :
    oX 157 #[Z.p bp, Z.i i, Z.i j, .agg (Gs.cv x).toArray] w fun e w' => ∃ v, e = .returned v ∧ v = Z.i ((Gs.qB (Gs.aZ r c) i j).length : Nat) ∧ Own B0 w' 37 5 (.slice A n cp) (rows Gs.cv (Gs.su cs (Gs.qB (Gs.aZ r c) i j) x)) ∧ aA (aH (.slice A n cp)) w w' := by
 refine YV.calls ?_
 unfold YV
 have hF : aA (aH (.slice A n cp)) w w := Fr.refl _ _ _
 refine Z.x _ (fun b1 w1 e1 ah _ U1 => ?_)
 have iq := ae.apart e1
 refine Z.x ((Gs.cv x).toArray) (fun b2 w2 e2 ax _ U2 => ?_)
 replace ae := ae.ai U1
 have dF := ae.apart e2
 refine Z.n (#[Z.i 0]) (fun b3 w3 e3 bC _ U3 => ?_)
 replace ag := U2.af (U1.af ag)
 have lH : bp ≠ b3 := by have := au ag; omega
 replace ae := ae.ai U2
 have iQ := ae.apart e3
 replace ah := U2.af ah
 have lL : b1 ≠ b3 := by have := au ah; omega
 have pU : b2 ≠ b3 := by have := au ax; omega
 replace hF := (hF.go0 U1).go0 U2
 have jF : w.heap.size ≤ b3 := by have := hF.size; omega
 refine Z.s bC (fun w4 bC _ U4 => ?_)
 refine bM (fun g w' => ∃ (D2 : Nat), (g 1000000 = mkV D2 undef) ∧ (w.heap.size ≤ D2) ∧ (w'.heap[D2]? = some (.deferred (some []))) ∧ (Own B0 w' 37 5 (.slice A n cp) (rows Gs.cv (Gs.su cs (Gs.qB (Gs.aZ r c) i j) x))) ∧ (Z.h w' b3 #[Z.i ((Gs.qB (Gs.aZ r c) i j).length : Nat)] 3) ∧ (aA (aH (.slice A n cp)) w w')) (fun J1 hJ1 => ?_) (fun gJ1 jT hI => ?_)
 replace ah := U4.aj (U3.af ah) lL
 refine Z.l ah ?_
 refine dw ?_
 refine Z.f 0 ?_
 replace ag := U4.aj (U3.af ag) lH
 refine Z.b 2 _ ag ?_
 refine aN (EJ) (fun v5 w5 D5 => ?_)
 obtain ⟨b3_17, b4_17, b5_17, rfl, g3_17, g4_17, g5_17, mY, mZ, ng, U5⟩ := D5
 replace ae := (ae.ai U3).aF U4 iQ
 have OX : ∀ k, aH _ k → k ≠ b3_17 := fun k hk => by have := (Own.ge ae hk).2; omega
 have VM : b3 ≠ b3_17 := by have := au bC; omega
 have OY : ∀ k, aH _ k → k ≠ b4_17 := fun k hk => by have := (Own.ge ae hk).2; omega
 have VN : b3 ≠ b4_17 := by have := au bC; omega
 have OZ : ∀ k, aH _ k → k ≠ b5_17 := fun k hk => by have := (Own.ge ae hk).2; omega
 have VO : b3 ≠ b5_17 := by have := au bC; omega
 refine tJ (by kernel_rfl) (fun w6 l2 D2 Rdy2 Bsy2 Dn2 y2 eD el bg bz lp1 lp2 lp3 sz6 U6 hY => ?_)
 have lp2_2 := lp2
 replace ag := U5.af ag
 have ig : bp ≠ l2 := by have := au ag; omega
 replace ae := ae.ai U5
 have rP : ∀ k, aH _ k → k ≠ D2 := fun k hk => by have := (Own.ge ae hk).2; omega
 have eH : ∀ k, aH _ k → k ≠ l2 := fun k hk => by have := (Own.ge ae hk).2; omega
 replace ah := U5.af ah
 have iD : b1 ≠ l2 := by have := au ah; omega
 replace ax := U5.af (U4.aj (U3.af ax) pU)
 have gq : b2 ≠ l2 := by have := au ax; omega
 replace bC := U5.af bC
 have ad7 : b3 ≠ D2 := by have := au bC; omega
 have Gv : b3 ≠ l2 := by have := au bC; omega
 have JU : b3_17 ≠ l2 := by have := au mY; omega
 have JV : b4_17 ≠ l2 := by have := au mZ; omega
 have JW : b5_17 ≠ l2 := by have := au ng; omega
 replace hF := ((hF.go0 U3).go1 U4 jF).go0 U5
 have nz : w.heap.size ≤ D2 := by have := hF.size; omega
 have jC : w.heap.size ≤ l2 := by have := hF.size; omega
 have fB : D2 ≠ l2 := by omega
 replace ae := ae.ai U6
 replace ag := U6.af ag
 replace ah := U6.af ah
 replace ax := U6.af ax
 replace bC := U6.af bC
 replace mY := U6.af mY
 replace mZ := U6.af mZ
 replace ng := U6.af ng
 replace hF := hF.go0 U6
 refine Calls.mono (Ci (b3 := b3_17) (b4 := b4_17) (b5 := b5_17) (J := (fun (k : Nat) (w' : World) => (Z.h w' bp #[Z.i r, Z.i c, .slice A n cp, Z.i cur] 91) ∧ (Own B0 w' 37 5 (.slice A n cp) (rows Gs.cv (Gs.su cs ((Gs.qB (Gs.aZ r c) i j).take k) x))) ∧ (Z.h w' b1 #[Z.p bp] 33) ∧ (Z.h w' b2 ((Gs.cv x).toArray) 37) ∧ (Z.h w' b3 #[Z.i (k : Nat)] 3) ∧ (Z.h w' b3_17 #[Z.i r, Z.i c] 32) ∧ (Z.h w' b4_17 #[Z.i i] 3) ∧ (Z.h w' b5_17 #[Z.i j] 3) ∧ (w'.heap[D2]? = some (.deferred (some []))) ∧ (w'.heap[l2]? = some Rdy2) ∧ (aA (aH (.slice A n cp)) w w'))) (X := (fun _ => False)) (fun _ w' hJ => by obtain ⟨ag, ae, ah, ax, bC, mY, mZ, ng, bg, bz, hF⟩ := hJ; exact ⟨mY, mZ, ng⟩) (fun _ w' w'' hJ U' => by obtain ⟨ag, ae, ah, ax, bC, mY, mZ, ng, bg, bz, hF⟩ := hJ; exact ⟨U'.af ag, ae.ai U', U'.af ah, U'.af ax, U'.af bC, U'.af mY, U'.af mZ, U'.af ng, U'.af bg, U'.af bz, hF.go0 U'⟩) ?_ ?_) ?_
 intro k qK xk hx hI
 obtain ⟨ag, ae, ah, ax, bC, mY, mZ, ng, bg, bz, hF⟩ := hI
 have bx := Gs.Td hx
 have hk := (List.getElem?_eq_some_iff.1 hx).1
 have hle := Gs.ahE (r := r) (c := c) (i := i) (j := j)
 have hfl := Gs.SV cs ((Gs.qB (Gs.aZ r c) i j).take k) x
 have hbl := Gs.Lc (Gs.aZ r c) i j
 refine hY [Z.i xk] _ _ rfl bz ?_
 simp only [List.getD_cons_zero, List.getD_cons_succ]
 refine wE bz (fun w7 bz _ U7 => ?_)
 refine dS (S := no) (fun w8 U8 => ?_)
 replace ah := U8.af (U7.aj ah iD)
 refine Z.m ah ?_
 refine fV ?_
 refine Z.g 2 ?_
 replace ag := U8.af (U7.aj ag ig)
 refine Z.m ag ?_
 replace ax := U8.af (U7.aj ax gq)
 refine bJ (fun w' hw' => by have ax := hw'.af ax; exact (Bv (n := 5) (cs' := (Gs.cv x).toArray) (by kernel_rfl) ax (Nat.le_of_ble_eq_true rfl) (by rfl))) ?_
 replace ae := (ae.aF U7 eH).ai U8
 obtain ⟨g9, hg9, _⟩ := ae.at (by rw [iC Gs.yu]; omega)
 subst hg9
 refine bJ (fun w' hw' => (JS (n := 5) (by kernel_rfl) (by omega) (by omega))) ?_
 refine aI (fun w10 aY => ?_)
 replace ae := ae.ai aY
 refine P8 (i := xk) Gs.yu (by kernel_rfl) ae (by omega) (by omega) rfl (fun nR N11 _ bK => ?_)
 have aK := ae
 replace ag := aY.af ag
 replace ag := bK.get ag (fun h => Own.aS aK ag (by decide) _ h rfl)
 replace ae := N11
 replace ah := aY.af ah
 replace ah := bK.get ah (fun h => iq _ h rfl)
 replace ax := aY.af ax
 replace ax := bK.get ax (fun h => dF _ h rfl)
 replace bC := aY.af (U8.af (U7.aj bC Gv))
 replace bC := bK.get bC (fun h => iQ _ h rfl)
 replace mY := aY.af (U8.af (U7.aj mY JU))
 replace mY := bK.get mY (fun h => OX _ h rfl)
 replace mZ := aY.af (U8.af (U7.aj mZ JV))
 replace mZ := bK.get mZ (fun h => OY _ h rfl)
 replace ng := aY.af (U8.af (U7.aj ng JW))
 replace ng := bK.get ng (fun h => OZ _ h rfl)
 replace bg := aY.af (U8.af (U7.aj bg fB))
 replace bg := bK.get bg (fun h => rP _ h rfl)
 replace bz := aY.af (U8.af bz)
 replace bz := bK.get bz (fun h => eH _ h rfl)
 replace hF := ((hF.go1 U7 jC).go0 U8).go0 aY
 replace hF := hF.go bK (fun i h hs => by exact hs)
 clear aK
 refine aI (fun w12 di => ?_)
 replace bC := di.af bC
 refine Z.l bC ?_
 refine ak (dK _ (by omega)) ?_
 refine Z.s bC (fun vY bC _ dI => ?_)
 replace bz := dI.aj (di.af bz) (Ne.symm Gv)
 refine rM bz (fun sO bz _ dC => ?_)
 replace ae := ((ae.ai di).aF dI iQ).aF dC eH
 replace ag := dC.aj (dI.aj (di.af ag) lH) ig
 replace ah := dC.aj (dI.aj (di.af ah) lL) iD
 replace ax := dC.aj (dI.aj (di.af ax) pU) gq
 replace mY := dC.aj (dI.aj (di.af mY) (Ne.symm VM)) JU
 replace mZ := dC.aj (dI.aj (di.af mZ) (Ne.symm VN)) JV
 replace ng := dC.aj (dI.aj (di.af ng) (Ne.symm VO)) JW
 replace bg := dC.aj (dI.aj (di.af bg) (Ne.symm ad7)) fB
 replace hF := ((hF.go0 di).go1 dI jF).go1 dC jC
 replace bC := dC.aj bC Gv
 exact ⟨ag, (by rw [← Gs.acd hx]; exact ae), ah, ax, (by simpa using bC), mY, mZ, ng, bg, bz, hF⟩
 exact ⟨ag, (by simpa [Gs.su] using ae), ah, ax, bC, mY, mZ, ng, bg, bz, hF⟩
 rintro e wE2 ⟨hv, hI | hI⟩
 obtain ⟨ag, ae, ah, ax, bC, mY, mZ, ng, bg, bz, hF⟩ := hI
 refine ⟨hv, .inl ⟨bz, fun uG _ bW => ?_⟩⟩
 refine hJ1 _ _ ?_
 replace ae := ae.aF bW eH
 replace bC := bW.aj bC Gv
 replace bg := bW.aj bg fB
 replace hF := hF.go1 bW jC
 exact ⟨_, (by rfl), nz, bg, (by rw [List.take_of_length_le (Nat.le_refl _)] at ae; exact ae), bC, hF⟩
 exact hI.elim
 replace ae := (ae.ai U3).aF U4 iQ
 replace hF := (hF.go0 U3).go1 U4 jF
 obtain ⟨D2, g1000000, nz, bg, ae, bC, hF⟩ := hI
 rw [g1000000]
 refine Z.l bC ?_
 refine leave1 bg (fun uS _ df => ?_)
 replace ae := ae.aF df (Own.kT ae (by assumption))
 replace hF := hF.go1 df nz
 exact ⟨_, rfl, rfl, ae, hF⟩
end Go.Proofs.YtjdoakbadehicaaGreatDoor
end
section
namespace Gs
open Go
def seen (b : Int) : Bool := decide (64 ≤ b ∧ b ≤ 254)
theorem encode_le (r : Int) : (Lib.encodeRune r).length ≤ 4 := by
 have := Lib.encodeRuneZ_length r
 simp [Lib.encodeRune]; omega
def bof (page r : Int) : Option Nat := (List.range 256).find? fun b : Nat => seen b && sign page b == r
def enc (page : Int) : List Int → Option (List Int)
 | [] => some []
 | r :: rs => match bof page r, enc page rs with | some b, some l => some ((b : Int) :: l) | _, _ => none
end Gs
end
section
namespace Gs
open Go
def uK (page : Int) (x : Cell) : Int := if x.st = true then 32 else if x.ge = true then 57344 + x.b else if 64 ≤ x.b ∧ x.b ≤ 254 then sign page x.b else 32
theorem TM {page : Int} {x : Cell} (h : x.st = true) : uK page x = 32 := by unfold uK; rw [if_pos h]
theorem TA {page : Int} {x : Cell} (h : ¬ x.st = true) (h2 : x.ge = true) : uK page x = 57344 + x.b := by unfold uK; rw [if_neg h, if_pos h2]
theorem adc {page : Int} {x : Cell} (h : ¬ x.st = true) (h2 : ¬ x.ge = true) (h3 : 64 ≤ x.b ∧ x.b ≤ 254) : uK page x = sign page x.b := by unfold uK; rw [if_neg h, if_neg h2, if_pos h3]
end Gs
end
section
namespace Gs
open Go
def ags : Bool := (List.range 256).all fun r => decide (Lib.decodeL (Lib.encodeRune (r : Int)) = (r, (Lib.encodeRune (r : Int)).length)) && decide (Lib.encodeRune (r : Int) ≠ [])
theorem Si : ags = true := by decide +kernel
theorem small {r : Int} (h0 : 0 ≤ r) (h1 : r < 256) : Lib.decodeL (Lib.encodeRune r) = (r.toNat, (Lib.encodeRune r).length) ∧ Lib.encodeRune r ≠ [] := by
 have := List.all_eq_true.1 Si r.toNat (by simp; omega)
 rw [Int.toNat_of_nonneg h0] at this
 simpa using this
end Gs
end
section
namespace Gs
open Go
def Sgn (x : Int) : Prop := (0 ≤ x ∧ x < 256) ∨ (57344 ≤ x ∧ x < 57600)
def Nv (r : Nat) : Bool := decide ((Utf8.encode (r : Int)).data.toList = Lib.encodeRune (r : Int)) && decide (Lib.decodeL (Lib.encodeRune (r : Int)) = (r, (Lib.encodeRune (r : Int)).length)) && decide (Lib.encodeRune (r : Int) ≠ [])
theorem ahF : ((List.range 256).all Nv) = true := by decide +kernel
theorem ahG : ((List.range 256).all fun r => Nv (57344 + r)) = true := by decide +kernel
theorem ai6 {x : Int} (h : Sgn x) : (Utf8.encode x).data.toList = Lib.encodeRune x ∧ Lib.decodeL (Lib.encodeRune x) = (x.toNat, (Lib.encodeRune x).length) ∧ Lib.encodeRune x ≠ [] := by
 have key : Nv x.toNat = true := by
  rcases h with h | h
  ·exact List.all_eq_true.1 ahF x.toNat (by simp; omega)
  ·have := List.all_eq_true.1 ahG (x.toNat - 57344) (by simp; omega)
   rwa [show 57344 + (x.toNat - 57344) = x.toNat by omega] at this
 have hx : ((x.toNat : Nat) : Int) = x := Int.toNat_of_nonneg (by rcases h with h | h <;> omega)
 unfold Nv at key
 rw [hx] at key
 simp only [Bool.and_eq_true, decide_eq_true_eq] at key
 exact ⟨key.1.1, key.1.2, key.2⟩
theorem abv {page : Int} {x : Cell} (h : Cw x) : Sgn (uK page x) := by
 have := X4 (page := page) h.1 (by have := h.2; omega)
 obtain ⟨h0, h1⟩ := h
 unfold uK Sgn
 split
 ·omega
 ·split
  ·omega
  ·split <;> omega
theorem Ad : Cw zc := ⟨by decide, by decide⟩
end Gs
end
section
namespace Go.Sh
open Go
variable {P : Program} {w : World}
theorem acL (x : Int) (j : Nat) (hj : j ≤ 62) : bits .and .i64 x ((2 ^ j - 1 : Nat) : Int) = x % (2 ^ j : Nat) := by
 have h2 : (2 : Nat) ^ j ≤ 2 ^ 62 := Nat.pow_le_pow_right (by decide) hj
 have h1 : (0 : Nat) < 2 ^ j := Nat.two_pow_pos j
 have e2 : (2 : Nat) ^ 62 = 4611686018427387904 := by decide
 rw [e2] at h2
 have key : (BitVec.ofInt IntKind.i64.bits x &&& BitVec.ofInt IntKind.i64.bits ((2 ^ j - 1 : Nat) : Int)).toNat = (x % 18446744073709551616).toNat % 2 ^ j := by
  rw [BitVec.toNat_and, BitVec.toNat_ofInt, BitVec.toNat_ofInt]
  have e64 : ((2 ^ IntKind.i64.bits : Nat) : Int) = 18446744073709551616 := by decide
  rw [e64]
  rw [Int.emod_eq_of_lt (a := ((2 ^ j - 1 : Nat) : Int)) (by omega) (by omega), Int.toNat_natCast, Nat.and_two_pow_sub_one_eq_mod]
 have hx0 : 0 ≤ x % 18446744073709551616 := Int.emod_nonneg _ (by decide)
 have hd : ((2 ^ j : Nat) : Int) ∣ 18446744073709551616 := by
  have : ((2 : Nat) ^ j) ∣ 2 ^ 64 := Nat.pow_dvd_pow 2 (by omega)
  have e : (18446744073709551616 : Int) = ((2 ^ 64 : Nat) : Int) := by decide
  rw [e]; exact Int.natCast_dvd_natCast.2 this
 show IntKind.i64.wrap (((BitVec.ofInt IntKind.i64.bits x &&& BitVec.ofInt IntKind.i64.bits ((2 ^ j - 1 : Nat) : Int)).toNat : Nat) : Int) = _
 rw [key]
 have hl : (x % 18446744073709551616).toNat % 2 ^ j < 2 ^ j := Nat.mod_lt _ h1
 rw [wrap_i64 (by omega) (by omega), Int.natCast_emod, Int.toNat_of_nonneg hx0, Int.emod_emod_of_dvd _ hd]
end Go.Sh
end
section
namespace Gs
open Go
theorem place (i : Int) {N : Nat} (h : N ≠ 0) : 0 ≤ i % 4096 % (N : Int) ∧ i % 4096 % (N : Int) < N :=
 ⟨Int.emod_nonneg _ (by omega), Int.emod_lt_of_pos _ (by omega)⟩
theorem Tq {cs : List Cell} {i k : Int} {x : Cell} (hi : 0 ≤ i ∧ i < cs.length) (hk : 0 ≤ k ∧ k < cs.length) : bV (cs.set i.toNat x) k = if i = k then x else bV cs k := by
 unfold bV
 rw [List.length_set, if_pos hk]
 simp only [List.getD]
 rw [List.getElem?_set]
 by_cases h : i = k
 ·subst h; simp [show i.toNat < cs.length by omega]
 ·rw [if_neg (by omega), if_neg h, if_pos hk]
theorem JX {k f : Int} {N : Nat} (hf : 0 ≤ f ∧ f < N) (hk : 0 ≤ k ∧ k < N) : (k - f + N) % N = if k < f then k - f + N else k - f := by
 split
 ·exact Int.emod_eq_of_lt (by omega) (by omega)
 ·rw [Int.add_emod_right]; exact Int.emod_eq_of_lt (by omega) (by omega)
end Gs
end
section
namespace Gs
open Go
structure qN where
 s : Int
 l : Int
 a : Int
deriving DecidableEq
def fv (f : qN) : List Value := [.int .i64 f.s, .int .i64 f.l, .int .u8 f.a]
def zf : qN := ⟨0, 0, 0⟩
abbrev stB (cs : List Cell) (i : Int) : Bool := (bV cs i).st
def AL (cs : List Cell) (at' step : Int) : Option Nat := (List.range cs.length).find? fun i : Nat => stB cs ((at' + i * step) % cs.length)
def lC (cs : List Cell) (at' step : Int) : Int := if 0 ≤ at' ∧ at' < cs.length then match AL cs at' step with | some i => (at' + i * step) % cs.length | none => -1 else -1
def gz (cs : List Cell) (at' : Int) : Int := lC cs at' (-1)
def tV (cs : List Cell) (at' : Int) : Int := if 0 ≤ at' ∧ at' < cs.length then lC cs ((at' + 1) % cs.length) 1 else -1
def vC (cs : List Cell) (s : Int) : Int := if tV cs s - s - 1 < 0 then tV cs s - s - 1 + cs.length else tV cs s - s - 1
def kC (cs : List Cell) (s : Int) : qN := ⟨s, vC cs s, (bV cs s).b % 64⟩
def bU (cs : List Cell) : List Nat := (List.range cs.length).filter fun i => stB cs i
def uC (cs : List Cell) : List Int := (bU cs).map Int.ofNat
def allM (cs : List Cell) : List qN := (uC cs).map (kC cs)
def l7 (cs : List Cell) (at' : Int) : qN := if gz cs at' < 0 then zf else kC cs (gz cs at')
def lZ (cs : List Cell) (at' : Int) : Bool := decide (¬ gz cs at' < 0)
def iy (N : Nat) (f : qN) : List Int := if 0 ≤ f.s ∧ f.s < N then (List.range (min (max f.l 0) N).toNat).map fun k : Nat => (f.s + (k + 1 : Nat)) % N else []
def qI (a : Int) : Bool := decide (a / 32 % 2 = 1)
def jX (cs : List Cell) (at' : Int) : Bool := if gz cs at' < 0 then decide (0 ≤ at' ∧ at' < cs.length) else decide (gz cs at' ≠ at') && !qI (kC cs (gz cs at')).a
def yh (f : qN) : Bool := decide (0 < f.l) && !qI f.a
def rZ (cs : List Cell) : Int := match (allM cs).find? yh with | some f => (f.s + 1) % cs.length | none => 0
theorem find_range {N i : Nat} {p : Nat → Bool} (hi : i < N) (hp : p i = true) (hn : ∀ j, j < i → p j = false) : (List.range N).find? p = some i := by
 rw [List.find?_range_eq_some]
 exact ⟨hp, by simpa using hi, fun j hj => by simp [hn j hj]⟩
theorem MK {N i : Nat} {p : Nat → Bool} (h : (List.range N).find? p = some i) : i < N ∧ p i = true ∧ ∀ j, j < i → p j = false := by
 rw [List.find?_range_eq_some] at h
 exact ⟨by simpa using h.2.1, h.1, fun j hj => by have := h.2.2 j hj; simpa using this⟩
theorem Dl {N : Nat} {p : Nat → Bool} (h : (List.range N).find? p = none) {j : Nat} (hj : j < N) : p j = false := by
 have := List.find?_eq_none.1 h j (List.mem_range.2 hj)
 simpa using this
def wR (cs : List Cell) (at' step : Int) (k : Nat) : Prop := ∀ j, j < k → stB cs ((at' + j * step) % cs.length) = false
theorem Wq (cs : List Cell) (at' step : Int) : wR cs at' step 0 := fun j hj => by omega
theorem MG {cs : List Cell} {at' step : Int} {k : Nat} (h : wR cs at' step k) (hn : stB cs ((at' + k * step) % cs.length) = false) : wR cs at' step (k + 1) := fun j hj => by
 by_cases hq : j = k
 ·subst hq; exact hn
 ·exact h j (by omega)
theorem Jm {cs : List Cell} {at' step : Int} {k : Nat} (h0 : 0 ≤ at' ∧ at' < cs.length) (h : wR cs at' step k) (hk : k < cs.length) (hs : stB cs ((at' + k * step) % cs.length) = true) : lC cs at' step = (at' + k * step) % cs.length := by
 unfold lC AL
 rw [if_pos h0, find_range hk hs h]
theorem PI {cs : List Cell} {at' step : Int} (h : wR cs at' step cs.length) : lC cs at' step = -1 := by
 unfold lC AL
 have : (List.range cs.length).find? (fun i : Nat => stB cs ((at' + i * step) % cs.length)) = none := by
  rw [List.find?_eq_none]
  intro j hj
  rw [h j (List.mem_range.1 hj)]; simp
 rw [this]; split <;> rfl
theorem yX {cs : List Cell} {at' step : Int} (h : ¬ (0 ≤ at' ∧ at' < cs.length)) : lC cs at' step = -1 := by unfold lC; rw [if_neg h]
theorem Ws {cs : List Cell} {at' : Int} (h : ¬ (0 ≤ at' ∧ at' < cs.length)) : tV cs at' = -1 := by unfold tV; rw [if_neg h]
theorem jR (x : Int) {N : Nat} (h : 0 < N) : 0 ≤ x % (N : Int) ∧ x % (N : Int) < N := ⟨Int.emod_nonneg _ (by omega), Int.emod_lt_of_pos _ (by omega)⟩
theorem Iz {cs : List Cell} {at' step : Int} (h0 : 0 ≤ at' ∧ at' < cs.length) (h : ¬ lC cs at' step < 0) : ∃ k : Nat, k < cs.length ∧ lC cs at' step = (at' + k * step) % cs.length ∧ stB cs (lC cs at' step) = true ∧ wR cs at' step k := by
 unfold lC at *
 rw [if_pos h0] at *
 cases hf : AL cs at' step with
 | none => rw [hf] at h; simp at h
 | some k =>
  obtain ⟨h1, h2, h3⟩ := MK hf
  exact ⟨k, h1, rfl, h2, h3⟩
theorem G6 {cs : List Cell} {at' : Int} (h0 : 0 ≤ at' ∧ at' < cs.length) (h : lC cs at' 1 < 0) : ∀ i : Int, 0 ≤ i ∧ i < cs.length → stB cs i = false := by
 have hn : wR cs at' 1 cs.length := by
  unfold lC at h
  rw [if_pos h0] at h
  cases hf : AL cs at' 1 with
  | none => intro j hj; exact Dl hf hj
  | some k => rw [hf] at h; have := (jR (at' + k * 1) (N := cs.length) (by omega)).1; simp only at h; omega
 intro i hi
 have := hn (((i - at') % cs.length).toNat) (by have := jR (i - at') (N := cs.length) (by omega); omega)
 rwa [Int.toNat_of_nonneg (jR (i - at') (N := cs.length) (by omega)).1, Int.mul_one, Int.add_comm at', Int.emod_add_emod, show i - at' + at' = i by omega, Int.emod_eq_of_lt hi.1 hi.2] at this
theorem Om {cs : List Cell} {at' : Int} (h0 : 0 ≤ at' ∧ at' < cs.length) (h : lC cs at' (-1) < 0) : ∀ i : Int, 0 ≤ i ∧ i < cs.length → stB cs i = false := by
 have hn : wR cs at' (-1) cs.length := by
  unfold lC at h
  rw [if_pos h0] at h
  cases hf : AL cs at' (-1) with
  | none => intro j hj; exact Dl hf hj
  | some k => rw [hf] at h; have := (jR (at' + k * (-1)) (N := cs.length) (by omega)).1; simp only at h; omega
 intro i hi
 have := hn (((at' - i) % cs.length).toNat) (by have := jR (at' - i) (N := cs.length) (by omega); omega)
 have e := Int.toNat_of_nonneg (jR (at' - i) (N := cs.length) (by omega)).1
 rw [e] at this
 have e2 : (at' + (at' - i) % (cs.length : Int) * -1) % (cs.length : Int) = i := by
  rw [Int.mul_neg, Int.mul_one, ← Int.sub_eq_add_neg, Int.sub_emod, Int.emod_emod, ← Int.sub_emod, show at' - (at' - i) = i by omega, Int.emod_eq_of_lt hi.1 hi.2]
 rwa [e2] at this
theorem len_eq {cs : List Cell} {s : Int} (h0 : 0 ≤ s ∧ s < cs.length) (hs : stB cs s = true) :
  ∃ L : Nat, L < cs.length ∧ vC cs s = L ∧ tV cs s = (s + 1 + L) % cs.length ∧ stB cs ((s + 1 + L) % cs.length) = true ∧ ∀ j : Nat, j < L → stB cs ((s + 1 + j) % cs.length) = false := by
 have hN : 0 < cs.length := by omega
 have hm := jR (s + 1) hN
 have h1 : ¬ lC cs ((s + 1) % cs.length) 1 < 0 := fun h => by
  have := G6 hm h s h0; rw [hs] at this; cases this
 obtain ⟨L, h2, h3, h4, h5⟩ := Iz hm h1
 rw [Int.mul_one, Int.emod_add_emod] at h3
 have ha : tV cs s = (s + 1 + L) % cs.length := by unfold tV; rw [if_pos h0, h3]
 refine ⟨L, h2, ?_, ha, by rw [← h3]; exact h4, fun j hj => ?_⟩
 ·unfold vC
  rw [ha]
  have hb := jR (s + 1 + L) hN
  by_cases hlt : s + 1 + L < cs.length
  ·rw [Int.emod_eq_of_lt (by omega) hlt, if_neg (by omega)]; omega
  ·have : (s + 1 + (L : Int)) % cs.length = s + 1 + L - cs.length := by
    rw [← Int.sub_emod_right, Int.emod_eq_of_lt (by omega) (by omega)]
   rw [this]
   by_cases hL : (L : Int) + 1 = cs.length
   ·rw [if_pos (by omega)]; omega
   ·rw [if_pos (by omega)]; omega
 ·have := h5 j hj
  rwa [Int.mul_one, Int.emod_add_emod] at this
theorem Tm {cs : List Cell} {s : Int} (h0 : 0 ≤ s ∧ s < cs.length) (hs : stB cs s = true) {j : Nat} (hj : (j : Int) ≤ vC cs s) : gz cs ((s + j) % cs.length) = s := by
 have hN : 0 < cs.length := by omega
 obtain ⟨L, h1, h2, _, _, h5⟩ := len_eq h0 hs
 have hjL : j ≤ L := by omega
 have hm := jR (s + j) hN
 have key : ∀ i : Nat, i ≤ j → ((s + j) % (cs.length : Int) + i * (-1)) % cs.length = (s + (j - i : Nat)) % cs.length := by
  intro i hi
  rw [Int.emod_add_emod]; congr 1; omega
 unfold gz
 have hk : (s + (j : Int)) % cs.length + (j : Nat) * (-1) = _ := rfl
 rw [Jm (k := j) hm (fun i hi => ?_) (by omega) ?_]
 ·rw [key j (Nat.le_refl _), Nat.sub_self]; simp only [Int.natCast_zero, Int.add_zero]; exact Int.emod_eq_of_lt h0.1 h0.2
 ·rw [key j (Nat.le_refl _), Nat.sub_self]; simp only [Int.natCast_zero, Int.add_zero]; rw [Int.emod_eq_of_lt h0.1 h0.2]; exact hs
 ·rw [key i (by omega)]
  have := h5 (j - i - 1) (by omega)
  rwa [show s + 1 + ((j - i - 1 : Nat) : Int) = s + (j - i : Nat) by omega] at this
theorem SX {cs : List Cell} {x : Int} (h0 : 0 ≤ x ∧ x < cs.length) (h : ¬ gz cs x < 0) : 0 ≤ gz cs x ∧ gz cs x < cs.length ∧ stB cs (gz cs x) = true ∧ ∃ j : Nat, (j : Int) ≤ vC cs (gz cs x) ∧ x = (gz cs x + j) % cs.length := by
 have hN : 0 < cs.length := by omega
 obtain ⟨k, h1, h2, h3, h4⟩ := Iz h0 h
 have e : gz cs x = (x + k * (-1)) % cs.length := h2
 have hb := jR (x + k * (-1)) hN
 have hs : 0 ≤ gz cs x ∧ gz cs x < cs.length := by rw [e]; exact hb
 have hxk : x = (gz cs x + k) % cs.length := by
  rw [e, Int.emod_add_emod, show x + (k : Int) * (-1) + k = x by omega, Int.emod_eq_of_lt h0.1 h0.2]
 refine ⟨hs.1, hs.2, h3, k, ?_, hxk⟩
 obtain ⟨L, q1, q2, _, q4, _⟩ := len_eq hs h3
 rw [q2]
 by_cases hq : k ≤ L
 ·omega
 ·exfalso
  have := h4 (k - L - 1) (by omega)
  have e2 : (x + ((k - L - 1 : Nat) : Int) * (-1)) % (cs.length : Int) = (gz cs x + 1 + L) % cs.length := by
   conv => lhs; rw [hxk]
   rw [Int.emod_add_emod]; congr 1; omega
  rw [e2, q4] at this
  cases this
theorem SY {cs : List Cell} {s : Int} (h0 : 0 ≤ s ∧ s < cs.length) (hs : stB cs s = true) : gz cs s = s := by
 obtain ⟨L, _, h2, _⟩ := len_eq h0 hs
 have := Tm h0 hs (j := 0) (by omega)
 simp only [Int.natCast_zero, Int.add_zero] at this
 rwa [Int.emod_eq_of_lt h0.1 h0.2] at this
theorem qc {cs : List Cell} {i : Nat} : i ∈ bU cs ↔ i < cs.length ∧ stB cs i = true := by simp [bU]
theorem DY {cs : List Cell} {s : Int} : s ∈ uC cs ↔ (0 ≤ s ∧ s < cs.length) ∧ stB cs s = true := by
 simp only [uC, List.mem_map]
 constructor
 ·rintro ⟨i, hi, rfl⟩
  have := qc.1 hi
  exact ⟨⟨Int.natCast_nonneg i, by have := this.1; show (i : Int) < _; omega⟩, this.2⟩
 ·rintro ⟨h, hs⟩
  exact ⟨s.toNat, qc.2 ⟨by omega, by rw [Int.toNat_of_nonneg h.1]; exact hs⟩, Int.toNat_of_nonneg h.1⟩
theorem QI (cs : List Cell) : (bU cs).Pairwise (· < ·) := List.pairwise_lt_range.filter _
theorem aa3 {cs : List Cell} {i j : Nat} (hij : i < j) (hj : j < (bU cs).length) : (bU cs)[i]'(by omega) < (bU cs)[j] := List.pairwise_iff_getElem.1 (QI cs) i j (by omega) hj hij
theorem FP (cs : List Cell) : (allM cs).length = (bU cs).length := by simp [allM, uC]
theorem ul (cs : List Cell) : (bU cs).length ≤ cs.length := by
 have := List.length_filter_le (fun i : Nat => stB cs i) (List.range cs.length)
 rw [List.length_range] at this; exact this
theorem rO {n a b : Int} (h : n ≠ 0) : Dp n a b = (a + b) % n := by unfold Dp; rw [if_neg h]
theorem agG {cs : List Cell} (at' step : Int) : -1 ≤ lC cs at' step ∧ lC cs at' step < max cs.length 1 := by
 unfold lC
 split
 ·rename_i h0
  cases hf : AL cs at' step with
  | none => simp only; omega
  | some k => have := jR (at' + k * step) (N := cs.length) (by omega); simp only; omega
 ·omega
theorem aiB {cs : List Cell} {i : Int} (h0 : 0 ≤ i ∧ i < cs.length) : -1 ≤ tV cs i ∧ tV cs i < cs.length := by
 unfold tV
 rw [if_pos h0]
 have := agG (cs := cs) ((i + 1) % cs.length) 1
 omega
theorem aaZ {cs : List Cell} {i : Int} (h0 : 0 ≤ i ∧ i < cs.length) : tV cs i = lC cs ((i + 1) % cs.length) 1 := by unfold tV; rw [if_pos h0]
theorem aiC {cs : List Cell} {i : Int} (h : tV cs i - i - 1 < 0) : tV cs i - i - 1 + cs.length = vC cs i := by unfold vC; rw [if_pos h]
theorem aiD {cs : List Cell} {i : Int} (h : ¬ tV cs i - i - 1 < 0) : tV cs i - i - 1 = vC cs i := by unfold vC; rw [if_neg h]
theorem sG {cs : List Cell} (h : jh cs) (i : Int) : 0 ≤ (bV cs i).b ∧ (bV cs i).b ≤ 255 := by
 unfold bV
 split
 ·rename_i hi
  rw [List.getD]
  cases hx : cs[i.toNat]? with
  | none => exact Ad
  | some x => exact h x (List.mem_of_getElem? hx)
 ·exact Ad
theorem Ox {cs : List Cell} {i : Int} (h : ¬ gz cs i < 0) : 0 ≤ gz cs i ∧ gz cs i < cs.length := by
 by_cases h0 : 0 ≤ i ∧ i < cs.length
 ·have := SX h0 h; exact ⟨this.1, this.2.1⟩
 ·unfold gz at h; rw [yX h0] at h; exact absurd (by omega) h
theorem aiF {cs : List Cell} {i : Int} (h : ¬ gz cs i < 0) : Ending.returned (.tuple #[.agg (fv (kC cs (gz cs i))).toArray, .bool true]) = Ending.returned (.tuple #[.agg (fv (l7 cs i)).toArray, .bool (lZ cs i)]) := by
 unfold l7 lZ; rw [if_neg h, decide_eq_true h]
theorem aiE {cs : List Cell} {i : Int} (h : gz cs i < 0) : Ending.returned (.tuple #[.agg (fv zf).toArray, .bool false]) = Ending.returned (.tuple #[.agg (fv (l7 cs i)).toArray, .bool (lZ cs i)]) := by
 unfold l7 lZ; rw [if_pos h, decide_eq_false (by omega)]
theorem X8 {cs : List Cell} (h : jh cs) (i : Int) : 0 ≤ (l7 cs i).a ∧ (l7 cs i).a ≤ 255 := by
 unfold l7
 split
 ·exact ⟨by decide, by decide⟩
 ·show 0 ≤ (bV cs _).b % 64 ∧ (bV cs _).b % 64 ≤ 255
  omega
theorem Wu {cs : List Cell} {i : Int} (h : lZ cs i = false) : jX cs i = decide (0 ≤ i ∧ i < cs.length) := by
 unfold jX; rw [if_pos (by simpa [lZ] using h)]
theorem ac7 {cs : List Cell} {i : Int} (h : lZ cs i = true) (h2 : (l7 cs i).s ≠ i) : jX cs i = !decide ((l7 cs i).a / 32 % 2 = 1) := by
 have h3 : ¬ gz cs i < 0 := by simpa [lZ] using h
 unfold l7 at h2 ⊢
 rw [if_neg h3] at h2 ⊢
 unfold jX
 rw [if_neg h3, decide_eq_true (show gz cs i ≠ i from h2)]
 rfl
theorem aa0 {cs : List Cell} {i : Int} (h : lZ cs i = true) (h2 : ¬ (l7 cs i).s ≠ i) : jX cs i = false := by
 have h3 : ¬ gz cs i < 0 := by simpa [lZ] using h
 unfold l7 at h2
 rw [if_neg h3] at h2
 unfold jX
 rw [if_neg h3, decide_eq_false (show ¬ gz cs i ≠ i from h2)]
 rfl
def yU (q : Bool) (x : Cell) : Cell := ⟨if q = true then x.b - x.b % 2 + 1 else x.b - x.b % 2, x.ge, x.st, x.l, x.c⟩
def qQ (q : Bool) (cs : List Cell) (i : Int) : List Cell := jb cs i (yU q (bV cs i))
def o5 (cs : List Cell) (i : Int) : List Cell := if gz cs i < 0 then cs else qQ true cs (gz cs i)
theorem BQ (q : Bool) (cs : List Cell) (i : Int) : (qQ q cs i).length = cs.length := mi _ _ _
theorem PE (cs : List Cell) (i : Int) : (o5 cs i).length = cs.length := by unfold o5; split; rfl; exact BQ _ _ _
theorem Oo {cs : List Cell} {i : Int} (h : gz cs i < 0) : o5 cs i = cs := by unfold o5; rw [if_pos h]
theorem Tf {cs : List Cell} {i : Int} (h : ¬ gz cs i < 0) : o5 cs i = qQ true cs (gz cs i) := by unfold o5; rw [if_neg h]
theorem aiH {q : Bool} {x : Cell} (h : Cw x) : Cw (yU q x) := by
 obtain ⟨h1, h2⟩ := h
 unfold yU Cw
 cases q <;> simp <;> omega
theorem S9 {q : Bool} {cs : List Cell} (h : jh cs) (i : Int) : jh (qQ q cs i) := h.jb (aiH (sG h i)) _
theorem agz {cs : List Cell} (h : jh cs) (i : Int) : jh (o5 cs i) := by unfold o5; split; exact h; exact S9 h _
def yY (cs : List Cell) (i : Nat) : Nat := ((List.range i).filter fun j : Nat => stB cs j).length
theorem ak3 {cs : List Cell} {i : Nat} (h : stB cs i = true) : yY cs (i + 1) = yY cs i + 1 := by simp [yY, List.range_succ, List.filter_append, h]
theorem ak4 {cs : List Cell} {i : Nat} (h : stB cs i = false) : yY cs (i + 1) = yY cs i := by simp [yY, List.range_succ, List.filter_append, h]
theorem cnt_end (cs : List Cell) : yY cs cs.length = (bU cs).length := rfl
theorem aa1 {cs : List Cell} {i : Nat} (hi : i < cs.length) (h : stB cs i = true) : (bU cs)[yY cs i]? = some i := by
 have e : List.range cs.length = List.range i ++ i :: List.range' (i + 1) (cs.length - i - 1) := by
  have h3 : List.range' 0 i ++ List.range' (0 + i) (cs.length - i) = List.range' 0 (i + (cs.length - i)) := List.range'_append_1
  rw [Nat.zero_add, show i + (cs.length - i) = cs.length by omega] at h3
  rw [List.range_eq_range', List.range_eq_range', ← h3]
  congr 1
  rw [show cs.length - i = (cs.length - i - 1) + 1 by omega, List.range'_succ]; rfl
 unfold bU yY
 rw [e, List.filter_append, List.getElem?_append_right (Nat.le_refl _), Nat.sub_self, List.filter_cons, if_pos h]
 rfl
theorem tK {N : Nat} {f : qN} (h : 0 ≤ f.s ∧ f.s < N) : ((iy N f).length : Int) = min (max f.l 0) N := by
 unfold iy
 rw [if_pos h, List.length_map, List.length_range]; omega
theorem xB {N : Nat} {f : qN} (h : ¬ (0 ≤ f.s ∧ f.s < N)) : iy N f = [] := by unfold iy; rw [if_neg h]
theorem xC {N : Nat} {f : qN} {k : Nat} (h : k < (iy N f).length) : (iy N f)[k]? = some ((f.s + (k + 1 : Nat)) % N) := by
 unfold iy at *
 split at h
 ·rename_i h0
  rw [if_pos h0]
  simp only [List.length_map, List.length_range] at h
  simp [h]
 ·simp at h
theorem FD {N : Nat} {f : qN} {k : Nat} {x : Int} (h : (iy N f)[k]? = some x) : 0 ≤ x ∧ x < N := by
 have hk := (List.getElem?_eq_some_iff.1 h).1
 have h2 := xC hk
 rw [h] at h2
 have h3 : x = (f.s + (k + 1 : Nat)) % N := by simpa using h2
 have hN : 0 < N := by
  rcases Nat.eq_zero_or_pos N with h0 | h0
  ·subst h0; rw [xB (by omega)] at hk; simp at hk
  ·exact h0
 rw [h3]; exact jR _ hN
theorem Dj (N : Nat) (f : qN) : (iy N f).length ≤ N := by
 by_cases h : 0 ≤ f.s ∧ f.s < N
 ·have := tK h; omega
 ·rw [xB h]; simp
theorem sU {α : Type} {l : List α} {k : Nat} {x : α} (h : l[k]? = some x) : l.take k ++ [x] = l.take (k + 1) := by rw [List.take_add_one, h]; rfl
theorem EF {cs : List Cell} {k s : Nat} (h : (bU cs)[k]? = some s) : (allM cs)[k]? = some (kC cs s) := by simp [allM, uC, h]
theorem SN {cs : List Cell} (h : jh cs) (i : Int) : 0 ≤ (kC cs i).a ∧ (kC cs i).a ≤ 255 := by
 show 0 ≤ (bV cs _).b % 64 ∧ (bV cs _).b % 64 ≤ 255
 omega
def FO (cs : List Cell) (k : Nat) : Prop := ∀ g ∈ (allM cs).take k, yh g = false
theorem agF (cs : List Cell) : FO cs 0 := fun g hg => by simp at hg
theorem MJ {cs : List Cell} {k s : Nat} (h : FO cs k) (hx : (bU cs)[k]? = some s) (hf : yh (kC cs s) = false) : FO cs (k + 1) := by
 intro g hg
 rw [← sU (EF hx)] at hg
 rcases List.mem_append.1 hg with hg | hg
 ·exact h g hg
 ·simp at hg; subst hg; exact hf
theorem Di {α : Type} {p : α → Bool} : ∀ {l : List α} {k : Nat} {x : α}, l[k]? = some x → (∀ y ∈ l.take k, p y = false) → p x = true → l.find? p = some x
 | [], k, x, h, _, _ => by simp at h
 | a :: l, 0, x, h, _, hp => by simp at h; subst h; simp [hp]
 | a :: l, k + 1, x, h, hn, hp => by
  have ha := hn a (by simp)
  rw [List.find?_cons, ha]
  exact Di (by simpa using h) (fun y hy => hn y (by simp [hy])) hp
theorem agC {cs : List Cell} {k s : Nat} (h : FO cs k) (hx : (bU cs)[k]? = some s) (hf : yh (kC cs s) = true) : ((s : Int) + 1) % cs.length = rZ cs := by
 unfold rZ
 rw [Di (EF hx) h hf]; rfl
theorem aa2 {cs : List Cell} (h : FO cs (bU cs).length) : rZ cs = 0 := by
 unfold rZ
 have : (allM cs).find? yh = none := by
  rw [List.find?_eq_none]
  intro g hg
  rw [h g (by rw [List.take_of_length_le (by rw [FP]; exact Nat.le_refl _)]; exact hg)]; simp
 rw [this]
theorem agD {f : qN} (h : 0 < f.l) (h2 : ¬ f.a / 32 % 2 = 1) : yh f = true := by unfold yh qI; simp [h, h2]
theorem agE {f : qN} (h : ¬ 0 < f.l) : yh f = false := by unfold yh; simp [h]
theorem agB {f : qN} (h2 : f.a / 32 % 2 = 1) : yh f = false := by unfold yh qI; simp [h2]
def Ae (cs : List Cell) (s : Nat) : Bool := decide ((bV cs s).b % 2 = 1)
def qP (cs : List Cell) (l : List Nat) : List Cell := l.foldl (fun c s => if Ae cs s = true then qQ false c s else c) cs
theorem Tn {cs : List Cell} {l : List Nat} {k s : Nat} (h : l[k]? = some s) : qP cs (l.take (k + 1)) = if Ae cs s = true then qQ false (qP cs (l.take k)) s else qP cs (l.take k) := by
 rw [← sU h]; unfold qP; rw [List.foldl_append]; rfl
theorem Oz {P : List Cell → Prop} {cs : List Cell} (h0 : P cs) (hs : ∀ c s, P c → P (qQ false c s)) : ∀ l : List Nat, P (qP cs l) := by
 intro l
 suffices h : ∀ (l : List Nat) (c : List Cell), P c → P (l.foldl (fun c s => if Ae cs s = true then qQ false c s else c) c) from h l cs h0
 intro l
 induction l with
 | nil => intro c h; exact h
 | cons a l ih =>
  intro c h
  rw [List.foldl_cons]
  split
  ·exact ih _ (hs c a h)
  ·exact ih _ h
theorem ED (cs : List Cell) (l : List Nat) : cs.length = (qP cs l).length := (Oz (P := fun c => c.length = cs.length) rfl (fun c s h => by rw [BQ]; exact h) l).symm
theorem QZ {cs : List Cell} (h : jh cs) (l : List Nat) : jh (qP cs l) := Oz h (fun c s h => S9 h s) l
theorem yV {q : Bool} {cs : List Cell} {i j : Int} : bV (qQ q cs i) j = if i = j ∧ 0 ≤ i ∧ i < cs.length then yU q (bV cs i) else bV cs j := by
 unfold qQ
 by_cases hi : 0 ≤ i ∧ i < cs.length
 ·by_cases hj : 0 ≤ j ∧ j < cs.length
  ·rw [Jl _ hi.1 hi.2, Tq hi hj]
   by_cases h : i = j
   ·rw [if_pos h, if_pos ⟨h, hi⟩]
   ·rw [if_neg h, if_neg (fun h2 => h h2.1)]
  ·rw [xh (by rw [mi]; exact hj), xh hj, if_neg]
   rintro ⟨rfl, _⟩
   exact hj hi
 ·rw [KG _ hi, if_neg]
  rintro ⟨_, h2⟩
  exact hi h2
theorem Tc {q : Bool} {cs : List Cell} {i j : Int} : stB (qQ q cs i) j = stB cs j := by
 show (bV _ _).st = (bV _ _).st
 rw [yV]
 split
 ·rename_i h; rw [← h.1]; rfl
 ·rfl
theorem Tt (cs : List Cell) (l : List Nat) (i : Int) : stB (qP cs l) i = stB cs i := Oz (P := fun c => stB c i = stB cs i) rfl (fun c s h => by rw [Tc]; exact h) l
theorem agH {cs : List Cell} {s : Nat} : ∀ {l : List Nat}, s ∉ l → bV (qP cs l) s = bV cs s := by
 intro l hl
 suffices h : ∀ (l : List Nat) (c : List Cell), s ∉ l → bV (l.foldl (fun c s => if Ae cs s = true then qQ false c s else c) c) s = bV c s from h l cs hl
 intro l
 induction l with
 | nil => intro c _; rfl
 | cons a l ih =>
  intro c h
  rw [List.foldl_cons, ih _ (fun hm => h (by simp [hm]))]
  split
  ·rw [yV, if_neg]
   rintro ⟨h2, _⟩
   exact h (by simp; omega)
  ·rfl
theorem JP {cs : List Cell} {k s : Nat} (hx : (bU cs)[k]? = some s) : s ∉ (bU cs).take k := by
 intro hm
 obtain ⟨j, hj, he⟩ := List.getElem_of_mem hm
 obtain ⟨hk, hx2⟩ := List.getElem?_eq_some_iff.1 hx
 rw [List.length_take] at hj
 have := aa3 (cs := cs) (i := j) (j := k) (by omega) hk
 rw [List.getElem_take] at he
 omega
theorem Jn {cs : List Cell} {k s : Nat} (hx : (bU cs)[k]? = some s) : (kC (qP cs ((bU cs).take k)) s).a % 2 = 1 ↔ Ae cs s = true := by
 show (bV _ _).b % 64 % 2 = 1 ↔ _
 rw [agH (JP hx)]
 unfold Ae
 rw [decide_eq_true_eq]; omega
def BV (cs : List Cell) (k : Nat) : Nat := ((bU cs).take k).countP (Ae cs)
theorem aiI {cs : List Cell} {k s : Nat} (hx : (bU cs)[k]? = some s) (h : Ae cs s = true) : BV cs (k + 1) = BV cs k + 1 := by
 unfold BV; rw [← sU hx, List.countP_append]; simp [h]
theorem aiJ {cs : List Cell} {k s : Nat} (hx : (bU cs)[k]? = some s) (h : ¬ Ae cs s = true) : BV cs (k + 1) = BV cs k := by
 unfold BV; rw [← sU hx, List.countP_append]; simp [h]
theorem agI (cs : List Cell) (k : Nat) : BV cs k ≤ cs.length := by
 have h1 := List.countP_le_length (p := Ae cs) (l := (bU cs).take k)
 have h2 := ul cs
 rw [List.length_take] at h1
 unfold BV; omega
end Gs
end
section
namespace Go.Sh
open Go
variable {P : Program} {w : World}
theorem Kr (t : TypeId) (k : IntKind) (x y : Int) : (binOp .and t (.int k x) (.int k y)).run P w = .ok (.int k (bits .and k x y)) w := by cases k <;> rfl
theorem orB (t : TypeId) (k : IntKind) (x y : Int) : (binOp .or t (.int k x) (.int k y)).run P w = .ok (.int k (bits .or k x y)) w := by cases k <;> rfl
theorem VV (t : TypeId) (k : IntKind) (x y : Int) : (binOp .andNot t (.int k x) (.int k y)).run P w = .ok (.int k (bits .andNot k x y)) w := by cases k <;> rfl
theorem wB {p : Int → Prop} (h : ∀ n : Fin 256, p (n.val : Int)) {x : Int} (hx : 0 ≤ x ∧ x ≤ 255) : p x := by
 have := h ⟨x.toNat, by omega⟩
 simpa [Int.toNat_of_nonneg hx.1] using this
theorem aay {x : Int} (hx : 0 ≤ x ∧ x ≤ 255) : bits .and .u8 x 32 = x / 32 % 2 * 32 := wB (p := fun x => bits .and .u8 x 32 = x / 32 % 2 * 32) (by decide +kernel) hx
theorem aaz {x : Int} (hx : 0 ≤ x ∧ x ≤ 255) : bits .and .u8 x 16 = x / 16 % 2 * 16 := wB (p := fun x => bits .and .u8 x 16 = x / 16 % 2 * 16) (by decide +kernel) hx
theorem acM {x : Int} (hx : 0 ≤ x ∧ x ≤ 255) : bits .and .u8 x 1 = x % 2 := wB (p := fun x => bits .and .u8 x 1 = x % 2) (by decide +kernel) hx
theorem aaA {x : Int} (hx : 0 ≤ x ∧ x ≤ 255) : bits .and .u8 x 63 = x % 64 := wB (p := fun x => bits .and .u8 x 63 = x % 64) (by decide +kernel) hx
theorem af9 {x : Int} (hx : 0 ≤ x ∧ x ≤ 255) : bits .or .u8 x 1 = x - x % 2 + 1 := wB (p := fun x => bits .or .u8 x 1 = x - x % 2 + 1) (by decide +kernel) hx
theorem UV {x : Int} (hx : 0 ≤ x ∧ x ≤ 255) : bits .andNot .u8 x 1 = x - x % 2 := wB (p := fun x => bits .andNot .u8 x 1 = x - x % 2) (by decide +kernel) hx
theorem aga (t : TypeId) {x : Int} (hx : 0 ≤ x ∧ x ≤ 255) : (binOp .and t (.int .u8 x) (.int .u8 32)).run P w = .ok (.int .u8 (x / 32 % 2 * 32)) w := by rw [Kr, aay hx]
theorem agb (t : TypeId) {x : Int} (hx : 0 ≤ x ∧ x ≤ 255) : (binOp .and t (.int .u8 x) (.int .u8 16)).run P w = .ok (.int .u8 (x / 16 % 2 * 16)) w := by rw [Kr, aaz hx]
theorem Q8 (t : TypeId) {x : Int} (hx : 0 ≤ x ∧ x ≤ 255) : (binOp .and t (.int .u8 x) (.int .u8 1)).run P w = .ok (.int .u8 (x % 2)) w := by rw [Kr, acM hx]
theorem Es (t : TypeId) {x : Int} (hx : 0 ≤ x ∧ x ≤ 255) : (binOp .and t (.int .u8 x) (.int .u8 63)).run P w = .ok (.int .u8 (x % 64)) w := by rw [Kr, aaA hx]
theorem akY (t : TypeId) {x : Int} (hx : 0 ≤ x ∧ x ≤ 255) : (binOp .or t (.int .u8 x) (.int .u8 1)).run P w = .ok (.int .u8 (x - x % 2 + 1)) w := by rw [orB, af9 hx]
theorem aaB (t : TypeId) {x : Int} (hx : 0 ≤ x ∧ x ≤ 255) : (binOp .andNot t (.int .u8 x) (.int .u8 1)).run P w = .ok (.int .u8 (x - x % 2)) w := by rw [VV, UV hx]
theorem amO (t : TypeId) {x y : Int} (hx : 0 ≤ x) (hx2 : x ≤ 9223372036854775807) (h : 0 < y) : (binOp .quo t (.int .i64 x) (.int .i64 y)).run P w = .ok (.int .i64 (x / y)) w := by
 have hy : ¬ y = 0 := by omega
 have h1 := Int.ediv_nonneg hx (show 0 ≤ y by omega)
 have h2 := Int.ediv_le_self y hx
 simp [go_sem, binOp, Op.intArith, hy]
 rw [Int.tdiv_eq_ediv_of_nonneg hx, wrap_i64 (by omega) (by omega)]
theorem agc {C : World → Prop} {A : (World → World → Prop) → World → Prop} (hC : ∀ a b, C a → aA no a b → C b) (h : ∀ w1, aA no w w1 → A (fun a b => C a → C b) w1) : drawn w A :=
 ⟨_, ⟨fun _ h => h, fun h k hc => k (h hc), fun he hc => hC _ _ hc (Fr.jg he)⟩, h _ (aA.drawn w)⟩
theorem Own.DR {B : Nat} {w : World} {e size : Nat} {v : Value} {xs : List Value} (h : Own B w e size v xs) : v.cells = #[v] ∧ v.oneCell' = true := by
 obtain ⟨n, _, h⟩ := h
 rcases h with ⟨rfl, _⟩ | ⟨g, cap, cur, rfl, _⟩ <;> exact ⟨rfl, rfl⟩
theorem Xw {w : World} {b b' : Nat} {cs : Array Value} {T : TypeId} {fr : Nat × Nat} {d : Option (List Deferred)} (h' : w.heap[b']? = some (.deferred d)) (h : w.heap[b]? = some (.cells cs T fr)) : b' ≠ b := by
 intro e; subst e; rw [h] at h'; cases h'
section
variable {α : Type} {f : α → List Value} {m : Nat} {l : List α} {R : Ending → World → Prop} {K : Value → World → Prop}
end
end Go.Sh
end
section
namespace Go.Proofs.YtjdoakbadehicaaGreatDoor
open Go Go.Sh
set_option maxRecDepth 100000
theorem RV {w : World} : oX 80 #[] w fun e w' => e = .returned (.agg (vals .u8 Gs.zK).toArray) ∧ aA no w w' := by
  refine F80.calls ?_
  unfold F80
  refine uu (cs := (vals .u8 (List.replicate 256 0)).toArray) (by kernel_rfl) fun b w1 e1 h1 _ U1 => ?_
  refine ak (sQ (n := 256) (m := 1) (z := (vals .u8 (List.replicate 256 0)).toArray) (cs := vals .u8 Gs.zK) (by kernel_rfl) (by kernel_rfl) (by kernel_rfl)) ?_
  refine Oh (n := 256) (by kernel_rfl) (by kernel_rfl) (by kernel_rfl) uZ h1 fun w2 h2 _ U2 => ?_
  refine yN (ak2 (n := 256) (by kernel_rfl) h2 (by kernel_rfl)) ?_
  exact ⟨rfl, U1.go1 U2 (by omega)⟩
theorem Oi {b : Int} {w : World} :
    oX 57 #[Z.u b] w fun e w' => e = .returned (.bool (decide (64 ≤ b ∧ b ≤ 254))) ∧ aA no w w' := by
 refine F57.calls ?_
 unfold F57
 have hF : aA no w w := Fr.refl _ _ _
 refine az (geq _ _ _ _) (fun h1 => ?_) (fun h1 => ?_)
 refine aX (aX ?_)
 refine ak (leq _ _ _ _) ?_
 refine aT ?_
 exact ⟨yL (by omega), hF⟩
 refine aQ (aQ (aU ?_))
 exact ⟨KC (by omega), hF⟩
theorem RX {b : Int} {w : World} :
    oX 155 #[Z.u b] w fun e w' => e = .returned (.bool (decide (240 ≤ b ∧ b ≤ 249))) ∧ aA no w w' := by
 refine XX.calls ?_
 unfold XX
 have hF : aA no w w := Fr.refl _ _ _
 refine az (geq _ _ _ _) (fun h1 => ?_) (fun h1 => ?_)
 refine aX (aX ?_)
 refine ak (leq _ _ _ _) ?_
 refine aT ?_
 exact ⟨yL (by omega), hF⟩
 refine aQ (aQ (aU ?_))
 exact ⟨KC (by omega), hF⟩
theorem Ey {b : Int} {w : World} (h0 : 0 ≤ b := by omega) (h1 : b < 256 := by omega) :
    oX 129 #[Z.u b] w fun e w' => e = .returned (.int .i32 (57344 + b)) ∧ aA no w w' := by
 refine XY.calls ?_
 unfold XY
 have hF : aA no w w := Fr.refl _ _ _
 refine ak (KD (by kernel_rfl) (by kernel_rfl) (by omega)) ?_
 refine ak (agr _ (by omega)) ?_
 exact ⟨rfl, hF⟩
theorem RY {page : Int} {w : World} :
    oX 79 #[Z.i page] w fun e w' => ∃ v, e = .returned v ∧ ∃ A c, v = .slice A (Gs.lw page).length c ∧ aA no w w' ∧ Rd w' A (Il (Gs.lw page)) ∧ uQ A (Il (Gs.lw page)) w.heap.size := by
 refine F79.calls ?_
 unfold F79
 have hF : aA no w w := Fr.refl _ _ _
 refine az (cZ _ _ _ _ _) (fun h1 => ?_) (fun h1 => ?_)
 refine aJ ?_
 refine ak (bG (l := [(0, 1), (1, 1)]) (z := #[Z.u 0, Z.u 0]) (by kernel_rfl) (by (simp [eP, splice, gu, Value.cells]; rfl))) ?_
 refine ak (bG (l := [(0, 1), (1, 1)]) (z := #[Z.u 0, Z.u 0]) (by kernel_rfl) (by (simp [eP, splice, gu, Value.cells]; rfl))) ?_
 refine ak (bG (l := [(0, 1), (1, 1)]) (z := #[Z.u 0, Z.u 0]) (by kernel_rfl) (by (simp [eP, splice, gu, Value.cells]; rfl))) ?_
 refine ak (bG (l := [(0, 1), (1, 1)]) (z := #[Z.u 0, Z.u 0]) (by kernel_rfl) (by (simp [eP, splice, gu, Value.cells]; rfl))) ?_
 refine ak (bG (l := [(0, 1), (1, 1)]) (z := #[Z.u 0, Z.u 0]) (by kernel_rfl) (by (simp [eP, splice, gu, Value.cells]; rfl))) ?_
 refine ak (bG (l := [(0, 1), (1, 1)]) (z := #[Z.u 0, Z.u 0]) (by kernel_rfl) (by (simp [eP, splice, gu, Value.cells]; rfl))) ?_
 refine ak (bG (l := [(0, 1), (1, 1)]) (z := #[Z.u 0, Z.u 0]) (by kernel_rfl) (by (simp [eP, splice, gu, Value.cells]; rfl))) ?_
 refine dN (e := 142) (m := 2) (z := #[Z.u 0, Z.u 0]) (by kernel_rfl) (by kernel_rfl) (by rfl) (by decide) (by (simp [eP, splice, gu, Value.cells]; rfl)) (fun b2 w2 e2 ax _ U2 => ?_)
 have eQ : w.heap.size ≤ b2 := by have := hF.size; omega
 replace hF := hF.go0 U2
 (subst_vars; exact ⟨_, rfl, _, _, rfl, hF, Rd.of_block (by assumption), uQ.of_block (by assumption)⟩)
 refine aC ?_
 refine az (cZ _ _ _ _ _) (fun h4 => ?_) (fun h4 => ?_)
 refine aJ ?_
 refine ak (bG (l := [(0, 1), (1, 1)]) (z := #[Z.u 0, Z.u 0]) (by kernel_rfl) (by (simp [eP, splice, gu, Value.cells]; rfl))) ?_
 refine ak (bG (l := [(0, 1), (1, 1)]) (z := #[Z.u 0, Z.u 0]) (by kernel_rfl) (by (simp [eP, splice, gu, Value.cells]; rfl))) ?_
 refine ak (bG (l := [(0, 1), (1, 1)]) (z := #[Z.u 0, Z.u 0]) (by kernel_rfl) (by (simp [eP, splice, gu, Value.cells]; rfl))) ?_
 refine ak (bG (l := [(0, 1), (1, 1)]) (z := #[Z.u 0, Z.u 0]) (by kernel_rfl) (by (simp [eP, splice, gu, Value.cells]; rfl))) ?_
 refine ak (bG (l := [(0, 1), (1, 1)]) (z := #[Z.u 0, Z.u 0]) (by kernel_rfl) (by (simp [eP, splice, gu, Value.cells]; rfl))) ?_
 refine ak (bG (l := [(0, 1), (1, 1)]) (z := #[Z.u 0, Z.u 0]) (by kernel_rfl) (by (simp [eP, splice, gu, Value.cells]; rfl))) ?_
 refine dN (e := 142) (m := 2) (z := #[Z.u 0, Z.u 0]) (by kernel_rfl) (by kernel_rfl) (by rfl) (by decide) (by (simp [eP, splice, gu, Value.cells]; rfl)) (fun b5 w5 e5 bY _ U5 => ?_)
 have ik : w.heap.size ≤ b5 := by have := hF.size; omega
 replace hF := hF.go0 U5
 (subst_vars; exact ⟨_, rfl, _, _, rfl, hF, Rd.of_block (by assumption), uQ.of_block (by assumption)⟩)
 refine aC ?_
 exact ⟨_, rfl, none, 0, by simp [Gs.lw, *], hF, by simp [Gs.lw, *, Il, Rd.nil], .inl (by simp [Gs.lw, *, Il])⟩
theorem DU {page b : Int} {w : World} (h0 : 0 ≤ b := by omega) (h1 : b < 256 := by omega) :
    oX 39 #[Z.i page, Z.u b] w fun e w' => e = .returned (.int .i32 (Gs.sign page b)) ∧ aA no w w' := by
 refine F39.calls ?_
 unfold F39
 have l_plain := Gs.QB
 have l_sw := Gs.ac2 page
 have hF : aA no w w := Fr.refl _ _ _
 refine bM (fun g w' => ((Gs.lw page).find? (fun p => p.1 == b) = none) ∧ (aA no w w')) (fun J1 hJ1 => ?_) (fun gJ1 jT hI => ?_)
 refine aN (RY) (fun v1 w1 D1 => ?_)
 obtain ⟨A8, c8, rfl, U1, rd8, gA8⟩ := D1
 refine ak (gZ (by kernel_rfl) _ _ _) ?_
 refine ed (fun g w' => ∃ (k : Nat), (g 10 = Z.i (k : Int)) ∧ (k ≤ (Gs.lw page).length) ∧ (((Gs.lw page).take k).find? (fun p => p.1 == b) = none) ∧ (Rd w' A8 (Il (Gs.lw page))) ∧ (aA no w w')) (fun g w' => (Gs.lw page).length - (RowKit.intOf (g 10)).toNat) ?_ (fun g2 qK hI => ?_)
 replace hF := hF.go0 U1
 exact ⟨0, (by rfl), Nat.zero_le _, rfl, rd8, hF⟩
 replace hF := hF.go0 U1
 obtain ⟨k, g10, hk, hall, rd8, hF⟩ := hI
 rw [g10]
 refine az (lss _ _ _ _) (fun h2 => ?_) (fun h2 => ?_)
 refine aJ ?_
 have hk3 : k < ((Gs.lw page)).length := by omega
 obtain ⟨p3, hp3⟩ : ∃ p, ((Gs.lw page))[k]? = some p := ⟨_, List.getElem?_eq_getElem hk3⟩
 refine Px (m := 2) (by kernel_rfl) (by kernel_rfl) rd8 (by decide) (XZ _).symm (by omega) (by omega) (ail _ _ p3 (by simpa using hp3)) ?_
 obtain ⟨q1, q2, q3, q4, q5⟩ := Gs.ac3 hp3
 refine Z.n (#[Z.u 0, Z.u 0]) (fun b4 w4 e4 eu _ U4 => ?_)
 have aaP := rd8.apart e4
 have nZ : w.heap.size ≤ b4 := by have := hF.size; omega
 refine gK (n := 2) (by kernel_rfl) (by rfl) (by (simp [Value.cells, Value.oneCell']; done)) eu (Nat.le_of_ble_eq_true rfl) (by (simp; rfl)) (fun w5 eu _ U5 => ?_)
 refine Z.f 0 ?_
 refine Z.l eu ?_
 refine az (cZ _ _ _ _ _) (fun h6 => ?_) (fun h6 => ?_)
 refine aJ ?_
 refine Z.f 1 ?_
 refine Z.l eu ?_
 refine ak (KD (by kernel_rfl) (by kernel_rfl) (by omega)) ?_
 replace hF := (hF.go0 U4).go1 U5 nZ
 exact ⟨nD (Gs.aaQ (aaR hp3 hall (by simpa using by assumption))), hF⟩
 refine aC ?_
 refine ak (dK _ (by omega)) ?_
 replace rd8 := (rd8.ai U4).aF U5 aaP
 replace hF := (hF.go0 U4).go1 U5 nZ
 exact ⟨⟨k + 1, (by rfl), by omega, (Di hp3 hall (by simpa using by assumption)), rd8, hF⟩, cnt_lt (by rfl) rfl (by omega)⟩
 refine aC ?_
 refine hJ1 _ _ ?_
 exact ⟨(by rw [← hall, List.take_of_length_le (by omega)]), hF⟩
 obtain ⟨hnone, hF⟩ := hI
 refine aB (RV) (fun w8 U8 => ?_)
 refine X0 (n := 256) (by kernel_rfl) (by assumption) (by omega) (by omega) (fun x9 hx9 => ?_)
 have q := Gs.aaS hx9
 refine ak (KD (by kernel_rfl) (by kernel_rfl) (by omega)) ?_
 replace hF := hF.go0 U8
 exact ⟨nD (Gs.aaT hnone hx9), hF⟩
section
variable (R : Ending → World → Prop) (w : World)
set_option maxRecDepth 100000
def F29 (a0 a1 : Value) : Prop :=
 oC 66 #[a0, a1, (Z.i (-1))] w R fun t7 w =>
 R (.returned t7) w
theorem F29.calls {R w a0 a1} : F29 R w a0 a1 → oX 29 #[a0, a1] w R := Z.k [0,1,4]
end
theorem mP {x : Int} {w : World} (hx : 0 ≤ x ∧ x ≤ 255) :
    oX 136 #[Z.u x] w fun e w' => e = .returned (.bool (decide (x / 32 % 2 = 1))) ∧ aA no w w' := by
 refine YE.calls ?_
 unfold YE
 have hF : aA no w w := Fr.refl _ _ _
 refine ak (aga _ (by omega)) ?_
 refine ak (kR _ _ _ _ _) ?_
 exact ⟨yL (by omega), hF⟩
theorem Dk {x : Int} {w : World} (hx : 0 ≤ x ∧ x ≤ 255) :
    oX 140 #[Z.u x] w fun e w' => e = .returned (.bool (decide (x % 2 = 1))) ∧ aA no w w' := by
 refine YH.calls ?_
 unfold YH
 have hF : aA no w w := Fr.refl _ _ _
 refine ak (Q8 _ (by omega)) ?_
 refine ak (kR _ _ _ _ _) ?_
 exact ⟨yL (by omega), hF⟩
theorem MF {x : Int} {w : World} (hx : 0 ≤ x ∧ x ≤ 255) :
    oX 137 #[Z.u x, .bool true] w fun e w' => e = .returned (Z.u (x - x % 2 + 1)) ∧ aA no w w' := by
 refine Ou.calls ?_
 unfold Ou
 have hF : aA no w w := Fr.refl _ _ _
 refine aJ ?_
 refine ak (akY _ (by omega)) ?_
 exact ⟨rfl, hF⟩
theorem yf {x : Int} {w : World} (hx : 0 ≤ x ∧ x ≤ 255) :
    oX 137 #[Z.u x, .bool false] w fun e w' => e = .returned (Z.u (x - x % 2)) ∧ aA no w w' := by
 refine Ou.calls ?_
 unfold Ou
 have hF : aA no w w := Fr.refl _ _ _
 refine aC ?_
 refine ak (aaB _ (by omega)) ?_
 exact ⟨rfl, hF⟩
theorem EE {r c cur : Int} {A : Option Addr} {n cp bp B0 : Nat} {cs : List Gs.Cell} {w : World} (ag : Z.h w bp #[Z.i r, Z.i c, .slice A n cp, Z.i cur] 91) (ae : Own B0 w 37 5 (.slice A n cp) (rows Gs.cv cs)) (hn : n = cs.length) {i : Int} (hN : Gs.aZ r c = n) (hb : n ≤ 4096) :
    oX 66 #[Z.p bp, Z.i i, Z.i 1] w fun e w' => e = .returned (Z.i (Gs.lC cs i 1)) ∧ aA no w w' := by
 refine Wp.calls ?_
 unfold Wp
 subst hn
 have hF : aA no w w := Fr.refl _ _ _
 refine az (lss _ _ _ _) (fun h1 => ?_) (fun h1 => ?_)
 refine bu (bu (bu (bu (aT (aJ ?_)))))
 exact ⟨nD (Gs.yX (by omega)).symm, hF⟩
 refine bD (bD (bD ?_))
 refine aB (fG ag ae rfl) (fun w3 U3 => ?_)
 refine bD ?_
 refine az (geq _ _ _ _) (fun h4 => ?_) (fun h4 => ?_)
 refine aU (aJ ?_)
 replace hF := hF.go0 U3
 exact ⟨nD (Gs.yX (by omega)).symm, hF⟩
 refine aU (aC ?_)
 refine bM (fun g w' => (Gs.wR cs i 1 cs.length) ∧ (aA no w w')) (fun J1 hJ1 => ?_) (fun gJ1 jT hI => ?_)
 replace ae := ae.ai U3
 replace ag := U3.af ag
 refine aB (fG ag ae rfl) (fun w6 U6 => ?_)
 refine ed (fun g w' => ∃ (k : Nat), (g 19 = Z.i (k : Int)) ∧ (k ≤ cs.length) ∧ (Gs.wR cs i 1 k) ∧ (Z.h w' bp #[Z.i r, Z.i c, .slice A cs.length cp, Z.i cur] 91) ∧ (Own B0 w' 37 5 (.slice A cs.length cp) (rows Gs.cv cs)) ∧ (aA no w w')) (fun g w' => cs.length - (RowKit.intOf (g 19)).toNat) ?_ (fun g2 qK hI => ?_)
 replace hF := (hF.go0 U3).go0 U6
 replace ae := ae.ai U6
 replace ag := U6.af ag
 exact ⟨0, (by rfl), Nat.zero_le _, (Gs.Wq _ _ _), ag, ae, hF⟩
 replace hF := (hF.go0 U3).go0 U6
 replace ae := ae.ai U6
 replace ag := U6.af ag
 obtain ⟨k, g19, hk, hno, ag, ae, hF⟩ := hI
 rw [g19]
 refine az (lss _ _ _ _) (fun h7 => ?_) (fun h7 => ?_)
 refine aJ ?_
 refine aB (jS ag ae rfl) (fun w8 U8 => ?_)
 refine ak (Ez _ (by omega)) ?_
 refine aB (mJ (i := i) (j := (k : Int) * 1)) (fun w9 U9 => ?_)
 rw [hN, Gs.rO (by omega)]
 replace ae := (ae.ai U8).ai U9
 replace ag := U9.af (U8.af ag)
 refine aB (iF ag ae rfl (i := (i + (k : Int) * 1) % (cs.length : Int))) (fun w10 aY => ?_)
 refine pK (qX (off := 2) (by kernel_rfl) (by rfl)) (fun h11 => ?_) (fun h11 => ?_)
 refine aJ ?_
 replace hF := ((hF.go0 U8).go0 U9).go0 aY
 exact ⟨nD (Gs.Jm (by omega) hno (by omega) (by assumption)).symm, hF⟩
 refine aC ?_
 refine ak (dK _ (by omega)) ?_
 replace hF := ((hF.go0 U8).go0 U9).go0 aY
 replace ae := ae.ai aY
 replace ag := aY.af ag
 exact ⟨⟨k + 1, (by rfl), by omega, (Gs.MG hno (by assumption)), ag, ae, hF⟩, cnt_lt (by rfl) rfl (by omega)⟩
 refine aC ?_
 refine hJ1 _ _ ?_
 exact ⟨(by rw [show cs.length = k by omega]; rw [show k = cs.length by omega] at hno ⊢; exact hno), hF⟩
 replace hF := hF.go0 U3
 obtain ⟨hno, hF⟩ := hI
 exact ⟨nD (Gs.PI hno).symm, hF⟩
theorem Ov {r c cur : Int} {A : Option Addr} {n cp bp B0 : Nat} {cs : List Gs.Cell} {w : World} (ag : Z.h w bp #[Z.i r, Z.i c, .slice A n cp, Z.i cur] 91) (ae : Own B0 w 37 5 (.slice A n cp) (rows Gs.cv cs)) (hn : n = cs.length) {i : Int} (hN : Gs.aZ r c = n) (hb : n ≤ 4096) :
    oX 66 #[Z.p bp, Z.i i, Z.i (-1)] w fun e w' => e = .returned (Z.i (Gs.lC cs i (-1))) ∧ aA no w w' := by
 refine Wp.calls ?_
 unfold Wp
 subst hn
 have hF : aA no w w := Fr.refl _ _ _
 refine az (lss _ _ _ _) (fun h1 => ?_) (fun h1 => ?_)
 refine bu (bu (bu (bu (aT (aJ ?_)))))
 exact ⟨nD (Gs.yX (by omega)).symm, hF⟩
 refine bD (bD (bD ?_))
 refine aB (fG ag ae rfl) (fun w3 U3 => ?_)
 refine bD ?_
 refine az (geq _ _ _ _) (fun h4 => ?_) (fun h4 => ?_)
 refine aU (aJ ?_)
 replace hF := hF.go0 U3
 exact ⟨nD (Gs.yX (by omega)).symm, hF⟩
 refine aU (aC ?_)
 refine bM (fun g w' => (Gs.wR cs i (-1) cs.length) ∧ (aA no w w')) (fun J1 hJ1 => ?_) (fun gJ1 jT hI => ?_)
 replace ae := ae.ai U3
 replace ag := U3.af ag
 refine aB (fG ag ae rfl) (fun w6 U6 => ?_)
 refine ed (fun g w' => ∃ (k : Nat), (g 19 = Z.i (k : Int)) ∧ (k ≤ cs.length) ∧ (Gs.wR cs i (-1) k) ∧ (Z.h w' bp #[Z.i r, Z.i c, .slice A cs.length cp, Z.i cur] 91) ∧ (Own B0 w' 37 5 (.slice A cs.length cp) (rows Gs.cv cs)) ∧ (aA no w w')) (fun g w' => cs.length - (RowKit.intOf (g 19)).toNat) ?_ (fun g2 qK hI => ?_)
 replace hF := (hF.go0 U3).go0 U6
 replace ae := ae.ai U6
 replace ag := U6.af ag
 exact ⟨0, (by rfl), Nat.zero_le _, (Gs.Wq _ _ _), ag, ae, hF⟩
 replace hF := (hF.go0 U3).go0 U6
 replace ae := ae.ai U6
 replace ag := U6.af ag
 obtain ⟨k, g19, hk, hno, ag, ae, hF⟩ := hI
 rw [g19]
 refine az (lss _ _ _ _) (fun h7 => ?_) (fun h7 => ?_)
 refine aJ ?_
 refine aB (jS ag ae rfl) (fun w8 U8 => ?_)
 refine ak (Ez _ (by omega)) ?_
 refine aB (mJ (i := i) (j := (k : Int) * (-1))) (fun w9 U9 => ?_)
 rw [hN, Gs.rO (by omega)]
 replace ae := (ae.ai U8).ai U9
 replace ag := U9.af (U8.af ag)
 refine aB (iF ag ae rfl (i := (i + (k : Int) * (-1)) % (cs.length : Int))) (fun w10 aY => ?_)
 refine pK (qX (off := 2) (by kernel_rfl) (by rfl)) (fun h11 => ?_) (fun h11 => ?_)
 refine aJ ?_
 replace hF := ((hF.go0 U8).go0 U9).go0 aY
 exact ⟨nD (Gs.Jm (by omega) hno (by omega) (by assumption)).symm, hF⟩
 refine aC ?_
 refine ak (dK _ (by omega)) ?_
 replace hF := ((hF.go0 U8).go0 U9).go0 aY
 replace ae := ae.ai aY
 replace ag := aY.af ag
 exact ⟨⟨k + 1, (by rfl), by omega, (Gs.MG hno (by assumption)), ag, ae, hF⟩, cnt_lt (by rfl) rfl (by omega)⟩
 refine aC ?_
 refine hJ1 _ _ ?_
 exact ⟨(by rw [show cs.length = k by omega]; rw [show k = cs.length by omega] at hno ⊢; exact hno), hF⟩
 replace hF := hF.go0 U3
 obtain ⟨hno, hF⟩ := hI
 exact ⟨nD (Gs.PI hno).symm, hF⟩
theorem qw {r c cur : Int} {A : Option Addr} {n cp bp B0 : Nat} {cs : List Gs.Cell} {w : World} (ag : Z.h w bp #[Z.i r, Z.i c, .slice A n cp, Z.i cur] 91) (ae : Own B0 w 37 5 (.slice A n cp) (rows Gs.cv cs)) (hn : n = cs.length) {i : Int} (hN : Gs.aZ r c = n) (hb : n ≤ 4096) :
    oX 29 #[Z.p bp, Z.i i] w fun e w' => e = .returned (Z.i (Gs.gz cs i)) ∧ aA no w w' := by
 refine F29.calls ?_
 unfold F29
 have hF : aA no w w := Fr.refl _ _ _
 refine aB (Ov ag ae hn hN hb (i := i)) (fun w1 U1 => ?_)
 replace hF := hF.go0 U1
 exact ⟨rfl, hF⟩
theorem QH {r c cur : Int} {A : Option Addr} {n cp bp B0 : Nat} {cs : List Gs.Cell} {w : World} (ag : Z.h w bp #[Z.i r, Z.i c, .slice A n cp, Z.i cur] 91) (ae : Own B0 w 37 5 (.slice A n cp) (rows Gs.cv cs)) (hn : n = cs.length) {i : Int} (hN : Gs.aZ r c = n) (hb : n ≤ 4096) :
    oX 173 #[Z.p bp, Z.i i] w fun e w' => e = .returned (Z.i (Gs.tV cs i)) ∧ aA no w w' := by
 refine YO.calls ?_
 unfold YO
 subst hn
 have hF : aA no w w := Fr.refl _ _ _
 refine az (lss _ _ _ _) (fun h1 => ?_) (fun h1 => ?_)
 refine bu (bu (bu (bu (aT (aJ ?_)))))
 exact ⟨nD (Gs.Ws (by omega)).symm, hF⟩
 refine bD (bD (bD ?_))
 refine aB (fG ag ae rfl) (fun w3 U3 => ?_)
 refine bD ?_
 refine az (geq _ _ _ _) (fun h4 => ?_) (fun h4 => ?_)
 refine aU (aJ ?_)
 replace hF := hF.go0 U3
 exact ⟨nD (Gs.Ws (by omega)).symm, hF⟩
 refine aU (aC ?_)
 replace ae := ae.ai U3
 replace ag := U3.af ag
 refine aB (jS ag ae rfl) (fun w6 U6 => ?_)
 refine aB (mJ (i := i) (j := 1)) (fun w7 U7 => ?_)
 rw [hN, Gs.rO (by omega)]
 replace ae := (ae.ai U6).ai U7
 replace ag := U7.af (U6.af ag)
 refine aB (EE ag ae rfl hN hb (i := (i + 1) % (cs.length : Int))) (fun w8 U8 => ?_)
 replace hF := (((hF.go0 U3).go0 U6).go0 U7).go0 U8
 exact ⟨nD (Gs.aaZ (by omega)).symm, hF⟩
theorem Au {r c cur : Int} {A : Option Addr} {n cp bp B0 : Nat} {cs : List Gs.Cell} {w : World} (ag : Z.h w bp #[Z.i r, Z.i c, .slice A n cp, Z.i cur] 91) (ae : Own B0 w 37 5 (.slice A n cp) (rows Gs.cv cs)) (hn : n = cs.length) (hN : Gs.aZ r c = n) (hb : n ≤ 4096) :
    oX 61 #[Z.p bp] w fun e w' => e = .returned (.bool (decide (0 ≤ Gs.lC cs 0 1))) ∧ aA no w w' := by
 refine F61.calls ?_
 unfold F61
 have hF : aA no w w := Fr.refl _ _ _
 refine aB (EE ag ae hn hN hb (i := 0)) (fun w1 U1 => ?_)
 refine ak (geq _ _ _ _) ?_
 replace hF := hF.go0 U1
 exact ⟨yL (by omega), hF⟩
theorem MH {r c cur : Int} {A : Option Addr} {n cp bp B0 : Nat} {cs : List Gs.Cell} {w : World} (ag : Z.h w bp #[Z.i r, Z.i c, .slice A n cp, Z.i cur] 91) (ae : Own B0 w 37 5 (.slice A n cp) (rows Gs.cv cs)) (hn : n = cs.length) {i : Int} (hN : Gs.aZ r c = n) (hb : n ≤ 4096)(hcw : Gs.jh cs) (hi : 0 ≤ i ∧ i < cs.length) :
    oX 154 #[Z.p bp, Z.i i] w fun e w' => e = .returned (.agg (Gs.fv (Gs.kC cs i)).toArray) ∧ aA no w w' := by
 refine YK.calls ?_
 unfold YK
 subst hn
 have hab := Gs.aiB hi
 have hgw := Gs.sG hcw i
 have hF : aA no w w := Fr.refl _ _ _
 refine Z.n ((Gs.fv Gs.zf).toArray) (fun b1 w1 e1 ah _ U1 => ?_)
 have bZ : w.heap.size ≤ b1 := by have := hF.size; omega
 replace ae := ae.ai U1
 replace ag := U1.af ag
 refine aB (QH ag ae rfl hN hb (i := i)) (fun w2 U2 => ?_)
 refine ak (xA _ (by omega)) ?_
 refine ak (xA _ (by omega)) ?_
 refine bM (fun g w' => (g 5 = Z.i (Gs.vC cs i)) ∧ (Z.h w' bp #[Z.i r, Z.i c, .slice A cs.length cp, Z.i cur] 91) ∧ (Own B0 w' 37 5 (.slice A cs.length cp) (rows Gs.cv cs)) ∧ (Z.h w' b1 ((Gs.fv Gs.zf).toArray) 173) ∧ (aA no w w')) (fun J1 hJ1 => ?_) (fun gJ1 jT hI => ?_)
 refine az (lss _ _ _ _) (fun h3 => ?_) (fun h3 => ?_)
 refine aJ ?_
 replace ae := ae.ai U2
 replace ag := U2.af ag
 refine aB (fG ag ae rfl) (fun w4 U4 => ?_)
 refine ak (dK _ (by omega)) ?_
 refine hJ1 _ _ ?_
 replace hF := ((hF.go0 U1).go0 U2).go0 U4
 replace ah := U4.af (U2.af ah)
 replace ae := ae.ai U4
 replace ag := U4.af ag
 exact ⟨(by exact congrArg (Value.int .i64) (Gs.aiC (by assumption))), ag, ae, ah, hF⟩
 refine aC ?_
 refine hJ1 _ _ ?_
 replace hF := (hF.go0 U1).go0 U2
 replace ae := ae.ai U2
 replace ag := U2.af ag
 replace ah := U2.af ah
 exact ⟨(by exact congrArg (Value.int .i64) (Gs.aiD (by assumption))), ag, ae, ah, hF⟩
 replace hF := (hF.go0 U1).go0 U2
 replace ae := ae.ai U2
 replace ag := U2.af ag
 replace ah := U2.af ah
 obtain ⟨g5, ag, ae, ah, hF⟩ := hI
 rw [g5]
 refine aB (iF ag ae rfl (i := i)) (fun w5 U5 => ?_)
 refine ak (qX (off := 0) (by kernel_rfl) (by rfl)) ?_
 refine ak (Es _ (by omega)) ?_
 refine ak (bG (l := [(0, 1), (1, 1), (2, 1)]) (z := #[Z.i 0, Z.i 0, Z.u 0]) (by kernel_rfl) (by (simp [eP, splice, gu, Value.cells, Gs.cv, Gs.fv]; rfl))) ?_
 replace ah := U5.af ah
 refine gK (n := 3) (by kernel_rfl) (by rfl) (by (simp [Value.cells, Value.oneCell', Gs.cv, Gs.fv]; done)) ah (Nat.le_of_ble_eq_true rfl) (by (simp; rfl)) (fun w6 ah _ U6 => ?_)
 refine Z.a 3 ah ?_
 replace hF := (hF.go0 U5).go1 U6 bZ
 exact ⟨rfl, hF⟩
theorem tu {r c cur : Int} {A : Option Addr} {n cp bp B0 : Nat} {cs : List Gs.Cell} {w : World} (ag : Z.h w bp #[Z.i r, Z.i c, .slice A n cp, Z.i cur] 91) (ae : Own B0 w 37 5 (.slice A n cp) (rows Gs.cv cs)) (hn : n = cs.length) {i : Int} (hN : Gs.aZ r c = n) (hb : n ≤ 4096)(hcw : Gs.jh cs)  :
    oX 116 #[Z.p bp, Z.i i] w fun e w' => e = .returned (.tuple #[.agg (Gs.fv (Gs.l7 cs i)).toArray, .bool (Gs.lZ cs i)]) ∧ aA no w w' := by
 refine Yw.calls ?_
 unfold Yw
 subst hn
 have hF : aA no w w := Fr.refl _ _ _
 refine Z.n ((Gs.fv Gs.zf).toArray) (fun b1 w1 e1 ah _ U1 => ?_)
 have bZ : w.heap.size ≤ b1 := by have := hF.size; omega
 replace ae := ae.ai U1
 replace ag := U1.af ag
 refine aB (qw ag ae rfl hN hb (i := i)) (fun w2 U2 => ?_)
 refine az (lss _ _ _ _) (fun h3 => ?_) (fun h3 => ?_)
 refine aJ ?_
 refine ak (bG (l := [(0, 1), (1, 1), (2, 1)]) (z := #[Z.i 0, Z.i 0, Z.u 0]) (cs := (Gs.fv Gs.zf)) (by kernel_rfl) (by rfl)) ?_
 replace ah := U2.af ah
 refine Z.t 3 ((Gs.fv Gs.zf).toArray) (by (simp [Value.cells, Value.oneCell', Gs.cv, Gs.fv]; done)) ah (fun w4 ah _ U4 => ?_)
 refine Z.a 3 ah ?_
 replace hF := ((hF.go0 U1).go0 U2).go1 U4 bZ
 exact ⟨Gs.aiE (by assumption), hF⟩
 refine aC ?_
 replace ae := ae.ai U2
 replace ag := U2.af ag
 refine aB (MH ag ae rfl hN hb hcw (i := Gs.gz cs i) (Gs.Ox (by assumption))) (fun w6 U6 => ?_)
 replace ah := U6.af (U2.af ah)
 refine Z.t 3 ((Gs.fv (Gs.kC cs (Gs.gz cs i))).toArray) (by (simp [Value.cells, Value.oneCell', Gs.cv, Gs.fv]; done)) ah (fun w7 ah _ U7 => ?_)
 refine Z.a 3 ah ?_
 replace hF := (((hF.go0 U1).go0 U2).go0 U6).go1 U7 bZ
 exact ⟨Gs.aiF (by assumption), hF⟩
theorem nJ {r c cur : Int} {A : Option Addr} {n cp bp B0 : Nat} {cs : List Gs.Cell} {w : World} (ag : Z.h w bp #[Z.i r, Z.i c, .slice A n cp, Z.i cur] 91) (ae : Own B0 w 37 5 (.slice A n cp) (rows Gs.cv cs)) (hn : n = cs.length) {i : Int} (hN : Gs.aZ r c = n) (hb : n ≤ 4096)(hcw : Gs.jh cs)  :
    oX 117 #[Z.p bp, Z.i i] w fun e w' => e = .returned (.bool (Gs.jX cs i)) ∧ aA no w w' := by
 refine Yx.calls ?_
 unfold Yx
 subst hn
 have hF : aA no w w := Fr.refl _ _ _
 refine aB (tu ag ae rfl hN hb hcw (i := i)) (fun w1 U1 => ?_)
 refine Z.e ?_
 refine Z.e ?_
 refine Z.n ((Gs.fv Gs.zf).toArray) (fun b2 w2 e2 ax _ U2 => ?_)
 replace ag := U1.af ag
 have eU : bp ≠ b2 := by have := au ag; omega
 replace ae := ae.ai U1
 have dF := ae.apart e2
 replace hF := hF.go0 U1
 have eQ : w.heap.size ≤ b2 := by have := hF.size; omega
 refine Z.t 3 ((Gs.fv (Gs.l7 cs i)).toArray) (by (simp [Value.cells, Value.oneCell', Gs.cv, Gs.fv]; done)) ax (fun w3 ax _ U3 => ?_)
 refine ak (Ac _) ?_
 refine jQ (fun h4 => ?_) (fun h4 => ?_)
 refine az (geq _ _ _ _) (fun h5 => ?_) (fun h5 => ?_)
 refine aX (aX (aX ?_))
 replace ae := (ae.ai U2).aF U3 dF
 replace ag := U3.aj (U2.af ag) eU
 refine aB (fG ag ae rfl) (fun w6 U6 => ?_)
 refine aX ?_
 refine ak (lss _ _ _ _) ?_
 refine aT ?_
 have hob : Gs.lZ cs i = false ∨ Gs.lZ cs i = true := by cases Gs.lZ cs i <;> simp
 replace hF := ((hF.go0 U2).go1 U3 eQ).go0 U6
 rw [Gs.Wu (by simp_all)]; exact ⟨yL (by omega), hF⟩
 refine aQ (aQ (aQ (aQ (aU ?_))))
 have hob : Gs.lZ cs i = false ∨ Gs.lZ cs i = true := by cases Gs.lZ cs i <;> simp
 replace hF := (hF.go0 U2).go1 U3 eQ
 rw [Gs.Wu (by simp_all)]; exact ⟨KC (by omega), hF⟩
 refine Z.f 0 ?_
 refine Z.l ax ?_
 refine az (kR _ _ _ _ _) (fun h9 => ?_) (fun h9 => ?_)
 refine aX ?_
 refine Z.f 2 ?_
 refine aX ?_
 refine Z.l ax ?_
 refine aX ?_
 refine aB (mP (Gs.X8 hcw i)) (fun w10 aY => ?_)
 refine aX ?_
 refine ak (Ac _) ?_
 refine aT ?_
 have hob : Gs.lZ cs i = false ∨ Gs.lZ cs i = true := by cases Gs.lZ cs i <;> simp
 replace hF := ((hF.go0 U2).go1 U3 eQ).go0 aY
 rw [Gs.ac7 (by simp_all) (by assumption)]; exact ⟨rfl, hF⟩
 refine aQ (aQ (aQ (aQ (aU ?_))))
 have hob : Gs.lZ cs i = false ∨ Gs.lZ cs i = true := by cases Gs.lZ cs i <;> simp
 replace hF := (hF.go0 U2).go1 U3 eQ
 rw [Gs.aa0 (by simp_all) (by assumption)]; exact ⟨rfl, hF⟩
theorem KH {r c cur : Int} {A : Option Addr} {n cp bp B0 : Nat} {cs : List Gs.Cell} {w : World} (ag : Z.h w bp #[Z.i r, Z.i c, .slice A n cp, Z.i cur] 91) (ae : Own B0 w 37 5 (.slice A n cp) (rows Gs.cv cs)) (hn : n = cs.length) {i : Int} (hN : Gs.aZ r c = n) (hb : n ≤ 4096)(hcw : Gs.jh cs) (hi : 0 ≤ i ∧ i < cs.length) :
    oX 123 #[Z.p bp, Z.i i, .bool true] w fun e w' => ∃ v, e = .returned v ∧ Own B0 w' 37 5 (.slice A n cp) (rows Gs.cv (Gs.qQ true cs i)) ∧ aA (aH (.slice A n cp)) w w' := by
 refine Ot.calls ?_
 unfold Ot
 have hgw := Gs.sG hcw i
 have hF : aA (aH (.slice A n cp)) w w := Fr.refl _ _ _
 refine aB (iF ag ae hn (i := i)) (fun w1 U1 => ?_)
 refine Z.n ((Gs.cv Gs.zc).toArray) (fun b2 w2 e2 ax _ U2 => ?_)
 replace ag := U1.af ag
 have eU : bp ≠ b2 := by have := au ag; omega
 replace ae := ae.ai U1
 have dF := ae.apart e2
 replace hF := hF.go0 U1
 have eQ : w.heap.size ≤ b2 := by have := hF.size; omega
 refine Z.t 5 ((Gs.cv (Gs.bV cs i)).toArray) (by (simp [Value.cells, Value.oneCell', Gs.cv, Gs.fv]; done)) ax (fun w3 ax _ U3 => ?_)
 refine Z.f 0 ?_
 refine Z.l ax ?_
 refine aB (MF hgw) (fun w4 U4 => ?_)
 refine Z.f 0 ?_
 replace ax := U4.af ax
 refine Z.s ax (fun w5 ax _ U5 => ?_)
 refine Z.b 5 _ ax ?_
 replace ae := (((ae.ai U2).aF U3 dF).ai U4).aF U5 dF
 replace ag := U5.aj (U4.af (U3.aj (U2.af ag) eU)) eU
 refine aN (jv ag ae hn (i := i) (x := Gs.yU true (Gs.bV cs i))) (fun v6 w6 D6 => ?_)
 obtain ⟨rfl, N6, U6⟩ := D6
 replace ae := N6
 replace hF := (((hF.go0 U2).go1 U3 eQ).go0 U4).go1 U5 eQ
 replace hF := hF.go U6 (fun i h hs => by exact hs)
 exact ⟨_, rfl, ae, hF⟩
theorem KI {r c cur : Int} {A : Option Addr} {n cp bp B0 : Nat} {cs : List Gs.Cell} {w : World} (ag : Z.h w bp #[Z.i r, Z.i c, .slice A n cp, Z.i cur] 91) (ae : Own B0 w 37 5 (.slice A n cp) (rows Gs.cv cs)) (hn : n = cs.length) {i : Int} (hN : Gs.aZ r c = n) (hb : n ≤ 4096)(hcw : Gs.jh cs) (hi : 0 ≤ i ∧ i < cs.length) :
    oX 123 #[Z.p bp, Z.i i, .bool false] w fun e w' => ∃ v, e = .returned v ∧ Own B0 w' 37 5 (.slice A n cp) (rows Gs.cv (Gs.qQ false cs i)) ∧ aA (aH (.slice A n cp)) w w' := by
 refine Ot.calls ?_
 unfold Ot
 have hgw := Gs.sG hcw i
 have hF : aA (aH (.slice A n cp)) w w := Fr.refl _ _ _
 refine aB (iF ag ae hn (i := i)) (fun w1 U1 => ?_)
 refine Z.n ((Gs.cv Gs.zc).toArray) (fun b2 w2 e2 ax _ U2 => ?_)
 replace ag := U1.af ag
 have eU : bp ≠ b2 := by have := au ag; omega
 replace ae := ae.ai U1
 have dF := ae.apart e2
 replace hF := hF.go0 U1
 have eQ : w.heap.size ≤ b2 := by have := hF.size; omega
 refine Z.t 5 ((Gs.cv (Gs.bV cs i)).toArray) (by (simp [Value.cells, Value.oneCell', Gs.cv, Gs.fv]; done)) ax (fun w3 ax _ U3 => ?_)
 refine Z.f 0 ?_
 refine Z.l ax ?_
 refine aB (yf hgw) (fun w4 U4 => ?_)
 refine Z.f 0 ?_
 replace ax := U4.af ax
 refine Z.s ax (fun w5 ax _ U5 => ?_)
 refine Z.b 5 _ ax ?_
 replace ae := (((ae.ai U2).aF U3 dF).ai U4).aF U5 dF
 replace ag := U5.aj (U4.af (U3.aj (U2.af ag) eU)) eU
 refine aN (jv ag ae hn (i := i) (x := Gs.yU false (Gs.bV cs i))) (fun v6 w6 D6 => ?_)
 obtain ⟨rfl, N6, U6⟩ := D6
 replace ae := N6
 replace hF := (((hF.go0 U2).go1 U3 eQ).go0 U4).go1 U5 eQ
 replace hF := hF.go U6 (fun i h hs => by exact hs)
 exact ⟨_, rfl, ae, hF⟩
theorem yc {r c cur : Int} {A : Option Addr} {n cp bp B0 : Nat} {cs : List Gs.Cell} {w : World} (ag : Z.h w bp #[Z.i r, Z.i c, .slice A n cp, Z.i cur] 91) (ae : Own B0 w 37 5 (.slice A n cp) (rows Gs.cv cs)) (hn : n = cs.length) {i : Int} (hN : Gs.aZ r c = n) (hb : n ≤ 4096)(hcw : Gs.jh cs)  :
    oX 73 #[Z.p bp, Z.i i] w fun e w' => ∃ v, e = .returned v ∧ v = .bool (decide (¬ Gs.gz cs i < 0)) ∧ Own B0 w' 37 5 (.slice A n cp) (rows Gs.cv (Gs.o5 cs i)) ∧ aA (aH (.slice A n cp)) w w' := by
 refine F73.calls ?_
 unfold F73
 have hF : aA (aH (.slice A n cp)) w w := Fr.refl _ _ _
 refine aB (qw ag ae hn hN hb (i := i)) (fun w1 U1 => ?_)
 refine az (lss _ _ _ _) (fun h2 => ?_) (fun h2 => ?_)
 refine aJ ?_
 replace ae := ae.ai U1
 replace hF := hF.go0 U1
 exact ⟨_, rfl, by rw [decide_eq_false (by omega)], by rw [Gs.Oo (by assumption)]; exact ae, hF⟩
 refine aC ?_
 replace ae := ae.ai U1
 replace ag := U1.af ag
 refine aN (KH ag ae hn hN hb hcw (i := Gs.gz cs i) (Gs.Ox (by assumption))) (fun v4 w4 D4 => ?_)
 obtain ⟨N4, U4⟩ := D4
 replace ae := N4
 replace hF := hF.go0 U1
 replace hF := hF.go U4 (fun i h hs => by exact hs)
 exact ⟨_, rfl, by rw [decide_eq_true (by assumption)], by rw [Gs.Tf (by assumption)]; exact ae, hF⟩
theorem wF {r c cur : Int} {A : Option Addr} {n cp bp B0 : Nat} {cs : List Gs.Cell} {w : World} (ag : Z.h w bp #[Z.i r, Z.i c, .slice A n cp, Z.i cur] 91) (ae : Own B0 w 37 5 (.slice A n cp) (rows Gs.cv cs)) (hn : n = cs.length)  :
    oX 135 #[Z.p bp] w fun e w' => ∃ v, e = .returned v ∧ ∃ b1, v = .func (.func 158) #[] #[Z.p b1] ∧ w.heap.size ≤ b1 ∧ Z.h w' b1 #[Z.p bp] 33 ∧ aA no w w' := by
 refine YD.calls ?_
 unfold YD
 have hF : aA no w w := Fr.refl _ _ _
 refine Z.x _ (fun b1 w1 e1 ah _ U1 => ?_)
 have bZ : w.heap.size ≤ b1 := by have := hF.size; omega
 refine ak (mkF _ _ _) ?_
 replace hF := hF.go0 U1
 exact ⟨_, rfl, b1, rfl, bZ, ah, hF⟩
theorem yS {r c cur : Int} {A : Option Addr} {n cp bp B0 : Nat} {cs : List Gs.Cell} {w : World} (ag : Z.h w bp #[Z.i r, Z.i c, .slice A n cp, Z.i cur] 91) (ae : Own B0 w 37 5 (.slice A n cp) (rows Gs.cv cs)) (hn : n = cs.length) {f : Gs.qN} :
    oX 141 #[Z.p bp, .agg (Gs.fv f).toArray] w fun e w' => ∃ v, e = .returned v ∧ ∃ b1 b2, v = .func (.func 161) #[] #[Z.p b2, Z.p b1] ∧ w.heap.size ≤ b1 ∧ w.heap.size ≤ b2 ∧ Z.h w' b1 #[Z.p bp] 33 ∧ Z.h w' b2 ((Gs.fv f).toArray) 173 ∧ aA no w w' := by
 refine YI.calls ?_
 unfold YI
 have hF : aA no w w := Fr.refl _ _ _
 refine Z.x _ (fun b1 w1 e1 ah _ U1 => ?_)
 have bZ : w.heap.size ≤ b1 := by have := hF.size; omega
 refine Z.x ((Gs.fv f).toArray) (fun b2 w2 e2 ax _ U2 => ?_)
 replace hF := hF.go0 U1
 have eQ : w.heap.size ≤ b2 := by have := hF.size; omega
 refine ak (mkF _ _ _) ?_
 replace ah := U2.af ah
 replace hF := hF.go0 U2
 exact ⟨_, rfl, b1, b2, rfl, bZ, eQ, ah, ax, hF⟩
theorem uj {r c cur : Int} {A : Option Addr} {n cp bp B0 b1 : Nat} {csF : Nat → List Gs.Cell} {y : Value} {J : Nat → World → Prop} {X : World → Prop} {w : World} (hcap : ∀ k w', J k w' → Z.h w' b1 #[Z.p bp] 33 ∧ Z.h w' bp #[Z.i r, Z.i c, .slice A n cp, Z.i cur] 91 ∧ Own B0 w' 37 5 (.slice A n cp) (rows Gs.cv (csF k))) (hst : ∀ k w' w'', J k w' → aA no w' w'' → J k w'') (hsx : ∀ w' w'', X w' → aA no w' w'' → X w'') (hlen : ∀ k, n = (csF k).length) (hw : ∀ k, Gs.jh (csF k)) (hst0 : ∀ k i, Gs.stB (csF k) i = Gs.stB (csF 0) i) (hN : Gs.aZ r c = n) (hb : n ≤ 4096) (hy : ∀ k w' (s : Nat), (Gs.bU (csF 0))[k]? = some s → J k w' → EC Tryz.prog y #[.agg (Gs.fv (Gs.kC (csF k) s)).toArray] w' (J (k + 1)) X) (h0 : J 0 w) :
    oX 158 #[y, Z.p b1] w fun e w' => (∃ v, e = .returned v) ∧ (J (Gs.bU (csF 0)).length w' ∨ X w') := by
 refine YL.calls ?_
 unfold YL
 obtain ⟨ah, ag, ae⟩ := hcap _ _ h0
 have hl0 := hlen 0
 refine Z.l ah ?_
 refine aB (fG ag ae (hlen 0)) (fun w1 U1 => ?_)
 replace h0 := hst _ _ _ h0 U1
 refine ed (fun g w' => ∃ k : Nat, k ≤ n ∧ g 6 = Z.i (k : Int) ∧ J (Gs.yY (csF 0) k) w') (fun g w' => n - (RowKit.intOf (g 6)).toNat) ?_ (fun g1 wl1 hI => ?_)
 exact ⟨0, Nat.zero_le _, rfl, h0⟩
 obtain ⟨k, hk, g6, hJ⟩ := hI
 rw [g6]
 replace ae := ae.ai U1
 replace ah := U1.af ah
 replace ag := U1.af ag
 obtain ⟨ah, ag, ae⟩ := hcap _ _ hJ
 refine az (lss _ _ _ _) (fun h2 => ?_) (fun h2 => ?_)
 refine aJ ?_
 refine Z.l ah ?_
 refine aB (iF ag ae (hlen _) (i := (k : Int))) (fun w3 U3 => ?_)
 replace hJ := hst _ _ _ hJ U3
 refine pK (qX (off := 2) (by kernel_rfl) (by rfl)) (fun h4 => ?_) (fun h4 => ?_)
 refine aX (aX ?_)
 replace ah := U3.af ah
 refine Z.l ah ?_
 refine aX (aX ?_)
 replace ae := ae.ai U3
 replace ag := U3.af ag
 refine aB (MH ag ae (hlen _) hN hb (hw _) (i := (k : Int)) ⟨by omega, by rw [← hlen]; omega⟩) (fun w5 U5 => ?_)
 replace hJ := hst _ _ _ hJ U5
 refine aX ?_
 refine FH (hy _ _ k (Gs.aa1 (by omega) (by rw [← hst0 (Gs.yY (csF 0) k) k]; assumption)) hJ) (fun wy6 hJ2 => ?_) (fun wy6 hX => ?_)
 replace ae := ae.ai U5
 replace ah := U5.af ah
 replace ag := U5.af ag
 obtain ⟨ah, ag, ae⟩ := hcap _ _ hJ2
 refine aX ?_
 refine ak (lV) ?_
 refine aT (aC ?_)
 refine ak (dK _ (by omega)) ?_
 exact ⟨⟨k + 1, by omega, rfl, by (rw [Gs.ak3 (by rw [← hst0 (Gs.yY (csF 0) k) k]; assumption)]; exact hJ2)⟩, cnt_lt (by rfl) rfl (by omega)⟩
 refine aX ?_
 refine ak (nI) ?_
 refine aT (aJ ?_)
 exact ⟨⟨_, rfl⟩, .inr hX⟩
 refine aQ (aQ (aQ (aQ (aQ (aQ (aU (aC ?_)))))))
 refine ak (dK _ (by omega)) ?_
 exact ⟨⟨k + 1, by omega, rfl, by (rw [Gs.ak4 (by rw [← hst0 (Gs.yY (csF 0) k) k]; assumption)]; exact hJ)⟩, cnt_lt (by rfl) rfl (by omega)⟩
 refine aC ?_
 exact ⟨⟨_, rfl⟩, .inl (by rw [← Gs.cnt_end, ← hl0, show n = k by omega]; exact hJ)⟩
theorem BI {r c cur : Int} {A : Option Addr} {n cp bp B0 b1 b2 : Nat} {cs : List Gs.Cell} {f : Gs.qN} {y : Value} {J : Nat → World → Prop} {X : World → Prop} {w : World} (hcap : ∀ k w', J k w' → Z.h w' b1 #[Z.p bp] 33 ∧ Z.h w' b2 ((Gs.fv f).toArray) 173 ∧ Z.h w' bp #[Z.i r, Z.i c, .slice A n cp, Z.i cur] 91 ∧ Own B0 w' 37 5 (.slice A n cp) (rows Gs.cv cs)) (hst : ∀ k w' w'', J k w' → aA no w' w'' → J k w'') (hsx : ∀ w' w'', X w' → aA no w' w'' → X w'') (hcx : ∀ w', X w' → Z.h w' b1 #[Z.p bp] 33 ∧ Z.h w' b2 ((Gs.fv f).toArray) 173 ∧ Z.h w' bp #[Z.i r, Z.i c, .slice A n cp, Z.i cur] 91 ∧ Own B0 w' 37 5 (.slice A n cp) (rows Gs.cv cs)) (hn : n = cs.length) (hN : Gs.aZ r c = n) (hb : n ≤ 4096) (hy : ∀ k w' x, (Gs.iy n f)[k]? = some x → J k w' → EC Tryz.prog y #[Z.i x] w' (J (k + 1)) X) (h0 : J 0 w) :
    oX 161 #[y, Z.p b2, Z.p b1] w fun e w' => (∃ v, e = .returned v) ∧ (J (Gs.iy n f).length w' ∨ X w') := by
 refine Ol.calls ?_
 unfold Ol
 obtain ⟨ah, ax, ag, ae⟩ := hcap _ _ h0
 refine dS (S := no) (fun w1 U1 => ?_)
 replace h0 := hst _ _ _ h0 U1
 refine Z.g 0 ?_
 replace ax := U1.af ax
 refine Z.m ax ?_
 refine lD (fun w' hw' => (lss _ _ _ _)) (fun h2 => ?_) (fun h2 => ?_)
 refine jc (jc (jc (jc (jc (lM ?_)))))
 refine aI (fun w3 U3 => ?_)
 replace h0 := hst _ _ _ h0 U3
 refine aJ ?_
 exact ⟨⟨_, rfl⟩, .inl (by rw [Gs.xB (by omega)]; exact h0)⟩
 refine eG ?_
 refine Z.g 0 ?_
 refine eG ?_
 refine Z.m ax ?_
 refine eG ?_
 replace ah := U1.af ah
 refine Z.m ah ?_
 refine eG ?_
 replace ae := ae.ai U1
 replace ag := U1.af ag
 refine fO (fun w' hw' => by have ag := hw'.af ag; have ae := ae.ai hw'; exact fG ag ae hn) ?_
 refine eG ?_
 refine lD (fun w' hw' => (geq _ _ _ _)) (fun h6 => ?_) (fun h6 => ?_)
 refine jq ?_
 refine aI (fun w7 U7 => ?_)
 replace h0 := hst _ _ _ h0 U7
 refine aJ ?_
 exact ⟨⟨_, rfl⟩, .inl (by rw [Gs.xB (by omega)]; exact h0)⟩
 refine jq ?_
 refine aI (fun w9 U9 => ?_)
 replace h0 := hst _ _ _ h0 U9
 refine aC ?_
 refine dS (S := no) (fun w10 aY => ?_)
 replace h0 := hst _ _ _ h0 aY
 refine Z.g 1 ?_
 replace ax := aY.af (U9.af ax)
 refine Z.m ax ?_
 refine bJ (fun w' hw' => (aix _ _ _ _ _)) ?_
 replace ah := aY.af (U9.af ah)
 refine Z.m ah ?_
 replace ae := (ae.ai U9).ai aY
 replace ag := aY.af (U9.af ag)
 refine fO (fun w' hw' => by have ag := hw'.af ag; have ae := ae.ai hw'; exact fG ag ae hn) ?_
 refine bJ (fun w' hw' => (aiy _ _ _ _ _)) ?_
 refine aI (fun w12 di => ?_)
 replace h0 := hst _ _ _ h0 di
 refine ed (fun g w' => ∃ k : Nat, k ≤ (Gs.iy n f).length ∧ g 21 = Z.i (k : Int) ∧ J k w') (fun g w' => (Gs.iy n f).length - (RowKit.intOf (g 21)).toNat) ?_ (fun g1 wl1 hI => ?_)
 have hpl := Gs.tK (N := n) (f := f) (by omega)
 exact ⟨0, Nat.zero_le _, rfl, h0⟩
 have hpl := Gs.tK (N := n) (f := f) (by omega)
 obtain ⟨k, hk, g21, hJ⟩ := hI
 rw [g21]
 replace ae := ae.ai di
 replace ah := di.af ah
 replace ax := di.af ax
 replace ag := di.af ag
 obtain ⟨ah, ax, ag, ae⟩ := hcap _ _ hJ
 refine az (lss _ _ _ _) (fun h13 => ?_) (fun h13 => ?_)
 refine aJ ?_
 refine agc (C := (fun w' => Z.h w' b1 #[Z.p bp] 33 ∧ Z.h w' b2 ((Gs.fv f).toArray) 173 ∧ Z.h w' bp #[Z.i r, Z.i c, .slice A n cp, Z.i cur] 91 ∧ Own B0 w' 37 5 (.slice A n cp) (rows Gs.cv cs))) (fun a b hC U => ⟨U.af hC.1, U.af hC.2.1, U.af hC.2.2.1, hC.2.2.2.ai U⟩) (fun sO dC => ?_)
 replace hJ := hst _ _ _ hJ dC
 replace ae := ae.ai dC
 replace ah := dC.af ah
 replace ax := dC.af ax
 replace ag := dC.af ag
 refine bJ (fun w' hw' => by have hC' := hw' ⟨ah, ax, ag, ae⟩; have ah := hC'.1; exact (kZ (by kernel_rfl) ah (by rfl))) ?_
 refine fO (fun w' hw' => by have hC' := hw' ⟨ah, ax, ag, ae⟩; have ag := hC'.2.2.1; have ae := hC'.2.2.2; exact jS ag ae hn) ?_
 refine Z.g 0 ?_
 refine bJ (fun w' hw' => by have hC' := hw' ⟨ah, ax, ag, ae⟩; have ax := hC'.2.1; exact (kZ (by kernel_rfl) ax (by rfl))) ?_
 refine bJ (fun w' hw' => (dK _ (by omega))) ?_
 refine fO (fun w' hw' => mJ (i := f.s) (j := (k : Int) + 1)) ?_
 rw [hN, Gs.rO (by omega), show ((k : Int) + 1) = ((k + 1 : Nat) : Int) by omega]
 refine aI (fun uS df => ?_)
 replace hJ := hst _ _ _ hJ df
 refine FH (hy k _ _ (Gs.xC (by omega)) hJ) (fun wy18 hJ2 => ?_) (fun wy18 hX => ?_)
 replace ae := ae.ai df
 replace ah := df.af ah
 replace ax := df.af ax
 replace ag := df.af ag
 obtain ⟨ah, ax, ag, ae⟩ := hcap _ _ hJ2
 refine bJ (fun w' hw' => (lV)) ?_
 refine aI (fun Ar fC => ?_)
 replace hJ2 := hst _ _ _ hJ2 fC
 refine aC ?_
 refine ak (dK _ (by omega)) ?_
 exact ⟨⟨k + 1, by omega, rfl, hJ2⟩, cnt_lt (by rfl) rfl (by omega)⟩
 refine bJ (fun w' hw' => (nI)) ?_
 refine aI (fun xu dR => ?_)
 replace hX := hsx _ _ hX dR
 refine aJ ?_
 exact ⟨⟨_, rfl⟩, .inr hX⟩
 refine aC ?_
 exact ⟨⟨_, rfl⟩, .inl (by rw [show (Gs.iy n f).length = k by omega]; exact hJ)⟩
theorem BG {r c cur : Int} {A : Option Addr} {n cp bp B0 : Nat} {cs : List Gs.Cell} {w : World} (ag : Z.h w bp #[Z.i r, Z.i c, .slice A n cp, Z.i cur] 91) (ae : Own B0 w 37 5 (.slice A n cp) (rows Gs.cv cs)) (hn : n = cs.length) (hN : Gs.aZ r c = n) (hb : n ≤ 4096) (hcw : Gs.jh cs)  :
    oX 133 #[Z.p bp] w fun e w' => e = .returned (Z.i (Gs.rZ cs)) ∧ aA no w w' := by
 refine YC.calls ?_
 unfold YC
 subst hn
 have hF : aA no w w := Fr.refl _ _ _
 refine Z.x _ (fun b1 w1 e1 ah _ U1 => ?_)
 refine Z.n (#[Z.i 0]) (fun b2 w2 e2 ax _ U2 => ?_)
 replace hF := hF.go0 U1
 have eQ : w.heap.size ≤ b2 := by have := hF.size; omega
 refine bM (fun g w' => ∃ (D2 : Nat), (g 1000000 = mkV D2 undef) ∧ (w.heap.size ≤ D2) ∧ (w'.heap[D2]? = some (.deferred (some []))) ∧ (Gs.FO cs (Gs.bU cs).length) ∧ (Z.h w' b2 #[Z.i 0] 3) ∧ (aA no w w')) (fun J1 hJ1 => ?_) (fun gJ1 jT hI => ?_)
 replace ah := U2.af ah
 refine Z.l ah ?_
 replace ae := (ae.ai U1).ai U2
 replace ag := U2.af (U1.af ag)
 refine aN (wF ag ae rfl) (fun v3 w3 D3 => ?_)
 obtain ⟨b1_5, rfl, g1_5, pG, U3⟩ := D3
 refine tJ (by kernel_rfl) (fun w4 l2 D2 Rdy2 Bsy2 Dn2 y2 eD el bg bz lp1 lp2 lp3 sz4 U4 hY => ?_)
 have lp2_2 := lp2
 replace ag := U3.af ag
 have ig : bp ≠ l2 := by have := au ag; omega
 replace ae := ae.ai U3
 have eH : ∀ k, aH _ k → k ≠ l2 := fun k hk => by have := (Own.ge ae hk).2; omega
 replace ah := U3.af ah
 have iD : b1 ≠ l2 := by have := au ah; omega
 replace ax := U3.af ax
 have tN : b2 ≠ D2 := by have := au ax; omega
 have gq : b2 ≠ l2 := by have := au ax; omega
 have AP : b1_5 ≠ l2 := by have := au pG; omega
 replace hF := (hF.go0 U2).go0 U3
 have nz : w.heap.size ≤ D2 := by have := hF.size; omega
 have jC : w.heap.size ≤ l2 := by have := hF.size; omega
 have fB : D2 ≠ l2 := by omega
 replace ae := ae.ai U4
 replace ag := U4.af ag
 replace ah := U4.af ah
 replace ax := U4.af ax
 replace pG := U4.af pG
 replace hF := hF.go0 U4
 refine Calls.mono (uj (b1 := b1_5) (csF := (fun _ => cs)) (J := (fun (k : Nat) (w' : World) => (Gs.FO cs k) ∧ (Z.h w' bp #[Z.i r, Z.i c, .slice A cs.length cp, Z.i cur] 91) ∧ (Own B0 w' 37 5 (.slice A cs.length cp) (rows Gs.cv cs)) ∧ (Z.h w' b1_5 #[Z.p bp] 33) ∧ (Z.h w' b1 #[Z.p bp] 33) ∧ (Z.h w' b2 #[Z.i 0] 3) ∧ (w'.heap[D2]? = some (.deferred (some []))) ∧ (w'.heap[l2]? = some Rdy2) ∧ (aA no w w'))) (X := (fun (w' : World) => (w'.heap[l2]? = some (Dn2 0)) ∧ (Z.h w' b2 #[Z.i (Gs.rZ cs)] 3) ∧ (w'.heap[D2]? = some (.deferred (some []))) ∧ (aA no w w'))) (fun _ w' hJ => by obtain ⟨hno, ag, ae, pG, ah, ax, bg, bz, hF⟩ := hJ; exact ⟨pG, ag, ae⟩) (fun _ w' w'' hJ U' => by obtain ⟨hno, ag, ae, pG, ah, ax, bg, bz, hF⟩ := hJ; exact ⟨hno, U'.af ag, ae.ai U', U'.af pG, U'.af ah, U'.af ax, U'.af bg, U'.af bz, hF.go0 U'⟩) (fun w' w'' hX U' => by obtain ⟨h_x, ax, bg, hF⟩ := hX; exact ⟨U'.af h_x, U'.af ax, U'.af bg, hF.go0 U'⟩) (fun _ => rfl) (fun _ => hcw) (fun _ _ => rfl) hN hb ?_ ?_) ?_
 intro k qK xk hx hI
 obtain ⟨hno, ag, ae, pG, ah, ax, bg, bz, hF⟩ := hI
 have hk := (List.getElem?_eq_some_iff.1 hx).1
 have hsl := Gs.ul cs
 refine hY [.agg (Gs.fv (Gs.kC cs xk)).toArray] _ _ rfl bz ?_
 simp only [List.getD_cons_zero, List.getD_cons_succ]
 refine Z.n ((Gs.fv Gs.zf).toArray) (fun b5 w5 e5 bY _ U5 => ?_)
 have jW : bp ≠ b5 := by have := au ag; omega
 have jr := ae.apart e5
 have MI : b1_5 ≠ b5 := by have := au pG; omega
 have gB : b1 ≠ b5 := by have := au ah; omega
 have mQ : b2 ≠ b5 := by have := au ax; omega
 have BR : D2 ≠ b5 := by have := au bg; omega
 have BU : l2 ≠ b5 := by have := au bz; omega
 have ik : w.heap.size ≤ b5 := by have := hF.size; omega
 refine Z.t 3 ((Gs.fv (Gs.kC cs xk)).toArray) (by (simp [Value.cells, Value.oneCell', Gs.cv, Gs.fv]; done)) bY (fun w6 bY _ U6 => ?_)
 replace bz := U6.aj (U5.af bz) BU
 refine wE bz (fun w7 bz _ U7 => ?_)
 refine Z.f 1 ?_
 replace bY := U7.aj bY (Ne.symm BU)
 refine Z.l bY ?_
 refine az (gtr _ _ _ _) (fun h8 => ?_) (fun h8 => ?_)
 refine aX ?_
 refine Z.f 2 ?_
 refine aX ?_
 refine Z.l bY ?_
 refine aX ?_
 refine dQ (mP (Gs.SN hcw xk)) (fun w9 U9 h9 => ?_) (fun w9 U9 h9 => ?_)
 simp only [Z.d, Z.c] at h9
 refine aX ?_
 refine ak (lV) ?_
 refine aT (aC ?_)
 replace bz := U9.af bz
 refine rM bz (fun w10 bz _ aY => ?_)
 replace ae := ((((ae.ai U5).aF U6 jr).aF U7 eH).ai U9).aF aY eH
 replace ag := aY.aj (U9.af (U7.aj (U6.aj (U5.af ag) jW) ig)) ig
 replace pG := aY.aj (U9.af (U7.aj (U6.aj (U5.af pG) MI) AP)) AP
 replace ah := aY.aj (U9.af (U7.aj (U6.aj (U5.af ah) gB) iD)) iD
 replace ax := aY.aj (U9.af (U7.aj (U6.aj (U5.af ax) mQ) gq)) gq
 replace bg := aY.aj (U9.af (U7.aj (U6.aj (U5.af bg) BR) fB)) fB
 replace hF := ((((hF.go0 U5).go1 U6 ik).go1 U7 jC).go0 U9).go1 aY jC
 exact ⟨(Gs.MJ hno hx (Gs.agB (by assumption))), ag, ae, pG, ah, ax, bg, bz, hF⟩
 simp only [Z.d, Z.c] at h9
 refine aX ?_
 refine ak (nI) ?_
 refine aT (aJ ?_)
 refine dS (S := no) (fun nR bK => ?_)
 replace ah := bK.af (U9.af (U7.aj (U6.aj (U5.af ah) gB) iD))
 refine Z.m ah ?_
 replace ae := ((((ae.ai U5).aF U6 jr).aF U7 eH).ai U9).ai bK
 replace ag := bK.af (U9.af (U7.aj (U6.aj (U5.af ag) jW) ig))
 refine fO (fun w' hw' => by have ag := hw'.af ag; have ae := ae.ai hw'; exact jS ag ae rfl) ?_
 refine Z.g 0 ?_
 replace bY := bK.af (U9.af bY)
 refine Z.m bY ?_
 refine fO (fun w' hw' => mJ (i := (xk : Int)) (j := 1)) ?_
 rw [hN, Gs.rO (by omega), Gs.agC hno hx (Gs.agD (by assumption) (by assumption))]
 refine aI (fun sO dC => ?_)
 replace ax := dC.af (bK.af (U9.af (U7.aj (U6.aj (U5.af ax) mQ) gq)))
 refine Z.s ax (fun uG ax _ bW => ?_)
 refine aI (fun w16 bQ => ?_)
 replace bz := bQ.af (bW.aj (dC.af (bK.af (U9.af bz))) (Ne.symm gq))
 refine anh bz (fun uS bz _ df => ?_)
 replace bg := df.aj (bQ.af (bW.aj (dC.af (bK.af (U9.af (U7.aj (U6.aj (U5.af bg) BR) fB)))) (Ne.symm tN))) fB
 replace hF := ((((((((hF.go0 U5).go1 U6 ik).go1 U7 jC).go0 U9).go0 bK).go0 dC).go1 bW eQ).go0 bQ).go1 df jC
 replace ax := df.aj (bQ.af ax) gq
 exact ⟨bz, ax, bg, hF⟩
 refine aQ (aQ (aQ (aQ (aU (aC ?_)))))
 refine rM bz (fun xx bz _ dM => ?_)
 replace ae := (((ae.ai U5).aF U6 jr).aF U7 eH).aF dM eH
 replace ag := dM.aj (U7.aj (U6.aj (U5.af ag) jW) ig) ig
 replace pG := dM.aj (U7.aj (U6.aj (U5.af pG) MI) AP) AP
 replace ah := dM.aj (U7.aj (U6.aj (U5.af ah) gB) iD) iD
 replace ax := dM.aj (U7.aj (U6.aj (U5.af ax) mQ) gq) gq
 replace bg := dM.aj (U7.aj (U6.aj (U5.af bg) BR) fB) fB
 replace hF := (((hF.go0 U5).go1 U6 ik).go1 U7 jC).go1 dM jC
 exact ⟨(Gs.MJ hno hx (Gs.agE (by assumption))), ag, ae, pG, ah, ax, bg, bz, hF⟩
 exact ⟨(Gs.agF _), ag, ae, pG, ah, ax, bg, bz, hF⟩
 rintro e wE2 ⟨hv, hI | hI⟩
 obtain ⟨hno, ag, ae, pG, ah, ax, bg, bz, hF⟩ := hI
 refine ⟨hv, .inl ⟨bz, fun Ar _ fC => ?_⟩⟩
 refine hJ1 _ _ ?_
 replace ax := fC.aj ax gq
 replace bg := fC.aj bg fB
 replace hF := hF.go1 fC jC
 exact ⟨_, (by rfl), nz, bg, hno, ax, hF⟩
 obtain ⟨h_x, ax, bg, hF⟩ := hI
 refine ⟨hv, .inr ⟨0, _, List.mem_singleton.2 rfl, h_x, fun xu _ dR => ?_⟩⟩
 replace bg := dR.aj bg fB
 refine leave1 bg (fun Ht _ gQ => ?_)
 replace ax := gQ.aj (dR.aj ax gq) tN
 refine yN (kZ (by kernel_rfl) ax (by rfl)) ?_
 replace hF := (hF.go1 dR jC).go1 gQ nz
 exact ⟨rfl, hF⟩
 replace hF := hF.go0 U2
 obtain ⟨D2, g1000000, nz, bg, hno, ax, hF⟩ := hI
 rw [g1000000]
 refine Z.s ax (fun Eu ax _ iZ => ?_)
 replace bg := iZ.aj bg (by exact Xw (by assumption) (by assumption))
 refine leave1 bg (fun GV _ fZ => ?_)
 replace ax := fZ.aj ax (by exact JG (by assumption) (by assumption))
 refine yN (kZ (by kernel_rfl) ax (by rfl)) ?_
 replace hF := (hF.go1 iZ eQ).go1 fZ nz
 rw [Gs.aa2 hno]; exact ⟨rfl, hF⟩
end Go.Proofs.YtjdoakbadehicaaGreatDoor
end
section
namespace Gs
open Go
structure Inb where
 jO : Int
 alone : Bool
 cur : Int
 items : List (Int × List Cell)
deriving DecidableEq
def fF (b : Int) : Bool := decide (64 ≤ b) || decide (b = 0 ∨ b = 12 ∨ b = 13 ∨ b = 21 ∨ b = 25 ∨ b = 28 ∨ b = 30 ∨ b = 63)
def uD (a b : Int) : Int := if a < 64 then 256 * a + b else 64 * (a % 64) + b % 64
def tX : List Int → Except Int (Cell × List Int)
 | [] => .error 20
 | c :: r => if fF c = true then .ok (⟨c, false, false, 0, 0⟩, r) else if c ≠ 8 then .error 21 else
  match r with
  | [] => .error 20
  | d :: r' => if d < 64 then .error 21 else .ok (⟨d, true, false, 0, 0⟩, r')
theorem zQ {l : List Int} {x : Cell} {r : List Int} (h : tX l = .ok (x, r)) : r.length < l.length := by
 unfold tX at h
 split at h
 ·cases h
 ·split at h
  ·cases h; simp
  ·split at h
   ·cases h
   ·split at h
    ·cases h
    ·split at h
     ·cases h
     ·cases h; simp; omega
def iG (l : List Int) : Except Int (List Cell × List Int) :=
 if l.head? = none ∨ l.head? = some 17 then .ok ([], l) else
 match h : tX l with
 | .error e => .error e
 | .ok (x, r) => match iG r with | .error e => .error e | .ok (xs, r') => .ok (x :: xs, r')
termination_by l.length
decreasing_by exact zQ h
theorem AU : ∀ {l : List Int} {xs : List Cell} {r : List Int}, iG l = .ok (xs, r) → r.length ≤ l.length ∧ (r.head? = none ∨ r.head? = some 17) ∧ (xs = [] → r = l) ∧ (xs ≠ [] → r.length < l.length)
 | l, xs, r, h => by
  unfold iG at h
  split at h
  ·rename_i hh; cases h; exact ⟨Nat.le_refl _, hh, fun _ => rfl, fun h => absurd rfl h⟩
  ·split at h
   ·cases h
   ·rename_i x r1 h1
    split at h
    ·cases h
    ·rename_i xs2 r2 h2
     cases h
     have hl := zQ h1
     have := AU h2
     exact ⟨by omega, this.2.1, (fun h => by cases h), fun _ => by omega⟩
termination_by l => l.length
decreasing_by assumption
def ku : List Int → Except Int (Int × List Int)
 | a :: b :: r => .ok (uD a b, r)
 | _ => .error 20
def qZ (l : List Int) : Except Int ((Int × List Cell) × List Int) :=
 if l.head? = some 17 then
  match ku l.tail with
  | .error e => .error e
  | .ok (p, r) => match iG r with | .error e => .error e | .ok (xs, r') => .ok ((p, xs), r')
 else match iG l with | .error e => .error e | .ok (xs, r') => .ok ((-1, xs), r')
theorem yw {l : List Int} {p : Int} {r : List Int} (h : ku l = .ok (p, r)) : r.length + 2 = l.length := by
 unfold ku at h
 split at h
 ·cases h; rfl
 ·cases h
theorem PM {l : List Int} {x : Int × List Cell} {r : List Int} (hl : l ≠ []) (h : qZ l = .ok (x, r)) : r.length < l.length := by
 unfold qZ at h
 split at h
 ·split at h
  ·cases h
  ·rename_i h1
   split at h
   ·cases h
   ·rename_i h2
    cases h
    have a := yw h1
    have b := (AU h2).1
    have : l.tail.length < l.length := by cases l; exact absurd rfl hl; simp
    omega
 ·rename_i hh
  split at h
  ·cases h
  ·rename_i xs r1 h2
   cases h
   have b := AU h2
   refine b.2.2.2 (fun hx => ?_)
   have hr := b.2.2.1 hx
   rw [hr] at b
   rcases b.2.1 with h3 | h3
   ·exact hl (by cases l; rfl; simp at h3)
   ·exact hh h3
def jJ (l : List Int) : Except Int (List (Int × List Cell)) :=
 if hl : l = [] then .ok [] else
 match h : qZ l with
 | .error e => .error e
 | .ok (x, r) => match jJ r with | .error e => .error e | .ok xs => .ok (x :: xs)
termination_by l.length
decreasing_by exact PM hl h
def wu : List Int → Except Int Inb
 | [] => .error 20
 | a :: r => if r = [] then .ok ⟨a, true, 0, []⟩ else
  match ku r with
  | .error e => .error e
  | .ok (c, r') => match jJ r' with | .error e => .error e | .ok xs => .ok ⟨a, false, c, xs⟩
def aie : Inb := ⟨0, false, 0, []⟩
def Oc (l : List Int) : Inb := match wu l with | .ok x => x | .error _ => aie
def acQ {α : Type} (r : Except Int α) : Int := match r with | .ok _ => 0 | .error e => e
def nM (v : Int) : Int := let v := v % 64; if (1 ≤ v % 16 ∧ v % 16 ≤ 9 ∧ v ≠ 33) ∨ v = 48 then 192 + v else 64 + v
def vT (p n : Int) : Option (Int × Int) :=
 if n < 1 ∨ 16384 < n ∨ p < 0 ∨ n ≤ p then none else if 4096 < n then some (p / 256, p % 256) else some (nM (p / 64), nM p)
def ZE (c : Cell) : Bool := !c.st && decide (c.l = 0) && decide (c.c = 0) && (if c.ge then decide (64 ≤ c.b) else fF c.b)
def cellW (c : Cell) : List Int := if c.ge then [8, c.b] else [c.b]
def II : List Cell → Except Int (List Int)
 | [] => .ok []
 | c :: cs => if ZE c = true then (match II cs with | .error e => .error e | .ok l => .ok (cellW c ++ l)) else .error 21
def afP (x : Int × List Cell) (first : Bool) (n : Int) : Except Int (List Int) :=
 if x.1 ≠ -1 ∨ first = false then
  match vT x.1 n with
  | none => .error 32
  | some (a, b) => match II x.2 with | .error e => .error e | .ok l => .ok (17 :: a :: b :: l)
 else II x.2
def TQ (n : Int) : Bool → List (Int × List Cell) → Except Int (List Int)
 | _, [] => .ok []
 | f, x :: xs => match afP x f n with
  | .error e => .error e
  | .ok l => match TQ n false xs with | .error e => .error e | .ok k => .ok (l ++ k)
end Gs
end
section
namespace Gs
open Go
theorem OE (d : Int) (r : List Int) : tX (8 :: d :: r) = if d < 64 then .error 21 else .ok (⟨d, true, false, 0, 0⟩, r) := rfl
theorem WB {c : Int} (h : fF c = true) (r : List Int) : tX (c :: r) = .ok (⟨c, false, false, 0, 0⟩, r) := if_pos h
theorem adv (a b : Int) (r : List Int) : qZ (17 :: a :: b :: r) = match iG r with | .error e => .error e | .ok (xs, r') => .ok ((uD a b, xs), r') := rfl
theorem ai0 (a b c : Int) (r : List Int) : wu (a :: b :: c :: r) = match jJ r with | .error e => .error e | .ok xs => .ok ⟨a, false, uD b c, xs⟩ := rfl
theorem TN (v : Int) : 64 ≤ nM v ∧ nM v ≤ 255 ∧ nM v % 64 = v % 64 := by
 unfold nM
 dsimp only
 split <;> omega
theorem agP {p n a b : Int} (h : vT p n = some (a, b)) : uD a b = p ∧ 0 ≤ a ∧ a ≤ 255 ∧ 0 ≤ b ∧ b ≤ 255 ∧ 0 ≤ p := by
 unfold vT at h
 split at h
 ·cases h
 ·split at h
  ·cases h
   unfold uD
   rw [if_pos (by omega)]
   omega
  ·cases h
   have h1 := TN (p / 64)
   have h2 := TN p
   unfold uD
   rw [if_neg (by omega)]
   omega
theorem adw {c : Cell} (h : ZE c = true) : c = ⟨c.b, c.ge, false, 0, 0⟩ ∧ (c.ge = true → 64 ≤ c.b) ∧ (c.ge = false → fF c.b = true) := by
 obtain ⟨b, ge, st, l, co⟩ := c
 cases ge <;> cases st <;> simp_all [ZE]
theorem agQ {c : Cell} (h : ZE c = true) (r : List Int) : tX (cellW c ++ r) = .ok (c, r) ∧ (cellW c ++ r).head? ≠ none ∧ (cellW c ++ r).head? ≠ some 17 := by
 obtain ⟨h1, h2, h3⟩ := adw h
 cases hg : c.ge with
 | false =>
  have hp := h3 hg
  have hw : cellW c = [c.b] := by unfold cellW; rw [hg]; rfl
  rw [hw]
  refine ⟨?_, by simp, ?_⟩
  ·rw [hg] at h1
   rw [List.cons_append, WB hp, ← h1]
   rfl
  ·show some c.b ≠ some 17
   intro e
   rw [Option.some.inj e] at hp
   exact absurd hp (by decide)
 | true =>
  have hw : cellW c = [8, c.b] := by unfold cellW; rw [hg]; rfl
  rw [hw]
  refine ⟨?_, by simp, by simp⟩
  rw [hg] at h1
  rw [List.cons_append, List.cons_append, OE, if_neg (by have := h2 hg; omega), ← h1]
  rfl
theorem TP : ∀ {xs : List Cell} {l : List Int}, II xs = .ok l → ∀ r : List Int, (r.head? = none ∨ r.head? = some 17) → iG (l ++ r) = .ok (xs, r)
 | [], l, h, r, hr => by
  cases h
  unfold iG
  rw [List.nil_append, if_pos hr]
 | c :: cs, l, h, r, hr => by
  unfold II at h
  split at h
  ·rename_i hm
   split at h
   ·cases h
   ·rename_i k hk
    cases h
    have h1 := agQ hm (k ++ r)
    have h2 := TP hk r hr
    rw [List.append_assoc]
    unfold iG
    rw [if_neg (by rintro (e | e); exact h1.2.1 e; exact h1.2.2 e)]
    split
    ·rename_i e he; rw [h1.1] at he; cases he
    ·rename_i x r1 he
     rw [h1.1] at he
     cases he
     rw [h2]
  ·cases h
theorem TL {n : Int} : ∀ {xs : List (Int × List Cell)} {l : List Int}, TQ n false xs = .ok l → jJ l = .ok xs ∧ (l.head? = none ∨ l.head? = some 17)
 | [], l, h => by cases h; exact ⟨by unfold jJ; rw [dif_pos rfl], .inl rfl⟩
 | x :: xs, l, h => by
  unfold TQ at h
  split at h
  ·cases h
  ·rename_i m hm
   split at h
   ·cases h
   ·rename_i k hk
    cases h
    have ih := TL hk
    unfold afP at hm
    rw [if_pos (.inr rfl)] at hm
    split at hm
    ·cases hm
    ·rename_i a b he
     split at hm
     ·cases hm
     ·rename_i cs hcs
      cases hm
      have hd := agP he
      refine ⟨?_, .inr rfl⟩
      have hi : qZ (17 :: a :: b :: cs ++ k) = .ok (x, k) := by
       rw [show 17 :: a :: b :: cs ++ k = 17 :: a :: b :: (cs ++ k) from rfl, adv, TP hcs k ih.2, hd.1]
      unfold jJ
      rw [dif_neg (by simp)]
      split
      ·rename_i e he2; rw [hi] at he2; cases he2
      ·rename_i y r1 he2
       rw [hi] at he2
       cases he2
       rw [ih.1]
def byL (l : List Int) : Prop := ∀ x ∈ l, 0 ≤ x ∧ x ≤ 255
theorem byL.tail {a : Int} {l : List Int} (h : byL (a :: l)) : byL l := fun x hx => h x (List.mem_cons_of_mem _ hx)
end Gs
namespace Gs
open Go
def EH (c : Cell) : Cell := if c.st then ⟨c.b % 64, false, true, 0, 0⟩ else ⟨if c.ge then (if c.b < 64 then 64 else c.b) else (if fF c.b = true then c.b else 64), c.ge, false, 0, 0⟩
def pV (c : Cell) : Bool := decide (c.b = 0) && !c.ge
def rf (c : Cell) : List Int := if c.ge then (if c.b < 64 then [8, 64] else [8, c.b]) else (if fF c.b = true then [c.b] else [64])
def lW (cs : List Cell) (l : List Int) : List Int := ((l.map (bV cs)).filter fun c => !pV c).flatMap rf
def IJ (cs : List Cell) (l : List Int) : List Cell := ((l.map (bV cs)).filter fun c => !pV c).map EH
end Gs
end
section
namespace Gs
open Go
theorem amh (v : Int) : nM (v % 64) = nM v := by
 unfold nM
 rw [Int.emod_emod_of_dvd v (by decide : (64 : Int) ∣ 64)]
def pI (p n : Int) : Int × Int × Int := match vT p n with | none => (0, 0, 1) | some (a, b) => (a, b, 0)
theorem FT {p n : Int} (h : n < 1 ∨ 16384 < n ∨ p < 0 ∨ n ≤ p) : pI p n = (0, 0, 1) := by unfold pI vT; rw [if_pos h]
theorem ada {p n : Int} (h : ¬ (n < 1 ∨ 16384 < n ∨ p < 0 ∨ n ≤ p)) (h2 : 4096 < n) : pI p n = (p / 256, p % 256, 0) := by unfold pI vT; rw [if_neg h, if_pos h2]
theorem Zq {p n : Int} (h : ¬ (n < 1 ∨ 16384 < n ∨ p < 0 ∨ n ≤ p)) (h2 : ¬ 4096 < n) : pI p n = (nM (p / 64), nM p, 0) := by unfold pI vT; rw [if_neg h, if_neg h2]
theorem adb {b : Int} (h : ¬ (b = 0 ∨ b = 12 ∨ b = 13 ∨ b = 21 ∨ b = 25 ∨ b = 28 ∨ b = 30 ∨ b = 63)) : fF b = decide (64 ≤ b) := by
 unfold fF; rw [decide_eq_false h, Bool.or_false]
theorem Zr {b : Int} (h : b = 0 ∨ b = 12 ∨ b = 13 ∨ b = 21 ∨ b = 25 ∨ b = 28 ∨ b = 30 ∨ b = 63) : fF b = true := by
 unfold fF; rw [decide_eq_true h, Bool.or_true]
def kQ (b : Int) : Int := if 241 ≤ b ∧ b ≤ 249 then b - 240 else if 122 ≤ b ∧ b ≤ 124 then b - 112 else if 193 ≤ b ∧ b ≤ 201 then b - 180 else if 74 ≤ b ∧ b ≤ 76 then b - 52 else 0
def yZ (b : Int) : ByteArray := if b = 125 then ⟨#[69, 78, 84, 69, 82]⟩ else if b = 109 then ⟨#[67, 76, 69, 65, 82]⟩ else if b = 108 then ⟨#[80, 65, 49]⟩ else if b = 110 then ⟨#[80, 65, 50]⟩ else if b = 107 then ⟨#[80, 65, 51]⟩ else ⟨#[]⟩
def yj (n : Int) : ByteArray := ⟨(Lib.itoa n).toArray⟩
def y9 (b : Int) : ByteArray := if 0 < kQ b then ⟨#[80, 70]⟩ ++ yj (kQ b) else yZ b
theorem Wy (b : Int) : 0 ≤ kQ b ∧ kQ b ≤ 24 := by unfold kQ; split <;> (try split) <;> (try split) <;> (try split) <;> omega
theorem PK (n : Nat) : yj n = ⟨(Lib.decDigits n).toArray⟩ := by unfold yj; rw [Lib.itoa_nonneg]
def OD : ByteArray := ⟨#[48, 49, 50, 51, 52, 53, 54, 55, 56, 57, 65, 66, 67, 68, 69, 70]⟩
def hexS (b : Int) : ByteArray := OD.extract (b / 16).toNat (b / 16 + 1).toNat ++ OD.extract (b % 16).toNat (b % 16 + 1).toNat
def Dt (b : Int) : ByteArray := if y9 b = ⟨#[]⟩ then hexS b else y9 b
theorem PL {b : Int} (h : 0 ≤ b) : (OD.extract (b / 16).toNat (b / 16 + 1).toNat).size + (OD.extract (b % 16).toNat (b % 16 + 1).toNat).size ≤ 2 := by
 rw [ByteArray.size_extract, ByteArray.size_extract]; omega
theorem MW {b : Int} (h : 0 ≤ b ∧ b ≤ 255) : (Dt b).size ≤ 100 := by
 unfold Dt
 split
 ·unfold hexS; rw [ByteArray.size_append]; have := PL h.1; omega
 ·unfold y9
  split
  ·rw [ByteArray.size_append]
   have hb := Wy b
   obtain ⟨n, hn⟩ := Int.eq_ofNat_of_zero_le hb.1
   rw [hn, PK]
   have : ∀ i : Fin 25, (Lib.decDigits i.val).length ≤ 2 := by decide +kernel
   have h2 := this ⟨n, by omega⟩
   have h3 : (⟨#[80, 70]⟩ : ByteArray).size = 2 := rfl
   have h4 : (⟨(Lib.decDigits n).toArray⟩ : ByteArray).size = (Lib.decDigits n).length := Sh.KL _
   dsimp only at h2
   omega
  ·unfold yZ
   split
   ·decide
   ·split
    ·decide
    ·split
     ·decide
     ·split
      ·decide
      ·split <;> decide
end Gs
namespace Gs
open Go
theorem Tz {page : Int} {c : Cell} (h : c.st = true ∨ (c.ge = false ∧ ¬ (64 ≤ c.b ∧ c.b ≤ 254))) : (⟨#[32]⟩ : ByteArray) = Utf8.encode (uK page c) := by
 have : uK page c = 32 := by
  rcases h with h | ⟨h, h2⟩
  ·exact TM h
  ·by_cases hs : c.st = true
   ·exact TM hs
   ·unfold uK; rw [if_neg hs, if_neg (by rw [h]; decide), if_neg h2]
 rw [this]; rfl
theorem Vx {n : Int} (h : 0 ≤ n ∧ n < 100) : (yj n).size ≤ 21 := by
 unfold yj
 rw [Sh.KL]
 exact Lib.itoa_length_le n (by omega) (by omega)
theorem FW {n : Int} (h : -9223372036854775808 ≤ n ∧ n ≤ 9223372036854775807) : (yj n).size ≤ 21 := by
 unfold yj
 rw [Sh.KL]
 exact Lib.itoa_length_le n h.1 h.2
end Gs
namespace Go.Sh
open Go
variable {P : Program} {w : World} {R : Ending → World → Prop} {K : Value → World → Prop}
end Go.Sh
end
section
namespace Go.Sh
open Go
variable {P : Program} {w : World}
theorem amP (t : TypeId) (x : Int) : (binOp .shr t (.int .i64 x) (.int .u64 6)).run P w = .ok (.int .i64 (x / 64)) w := by
 have h : (binOp .shr t (.int .i64 x) (.int .u64 6)).run P w = (Op.shift .shr .i64 x .u64 6).run P w := rfl
 rw [h, shift_shr _ _ _ _ (by decide) (by decide)]; rfl
theorem amQ (t : TypeId) (x : Int) : (binOp .shr t (.int .i64 x) (.int .u64 8)).run P w = .ok (.int .i64 (x / 256)) w := by
 have h : (binOp .shr t (.int .i64 x) (.int .u64 8)).run P w = (Op.shift .shr .i64 x .u64 8).run P w := rfl
 rw [h, shift_shr _ _ _ _ (by decide) (by decide)]; rfl
theorem aex (t : TypeId) (x : Int) : (binOp .shr t (.int .u8 x) (.int .u64 4)).run P w = .ok (.int .u8 (x / 16)) w := by
 have h : (binOp .shr t (.int .u8 x) (.int .u64 4)).run P w = (Op.shift .shr .u8 x .u64 4).run P w := rfl
 rw [h, shift_shr _ _ _ _ (by decide) (by decide)]; rfl
theorem amR (t : TypeId) {x : Int} (h0 : 0 ≤ x ∧ x ≤ 65535) : (binOp .shl t (.int .i64 x) (.int .u64 6)).run P w = .ok (.int .i64 (x * 64)) w := by
 have h : (binOp .shl t (.int .i64 x) (.int .u64 6)).run P w = (Op.shift .shl .i64 x .u64 6).run P w := rfl
 rw [h, shift_shl _ _ _ _ (by decide) (by decide)]
 show Result.ok (Value.int .i64 (IntKind.i64.wrap (x * 64))) w = _
 rw [wrap_i64 (by omega) (by omega)]
theorem ah3 (t : TypeId) {x : Int} (h0 : 0 ≤ x ∧ x ≤ 65535) : (binOp .shl t (.int .i64 x) (.int .u64 8)).run P w = .ok (.int .i64 (x * 256)) w := by
 have h : (binOp .shl t (.int .i64 x) (.int .u64 8)).run P w = (Op.shift .shl .i64 x .u64 8).run P w := rfl
 rw [h, shift_shl _ _ _ _ (by decide) (by decide)]
 show Result.ok (Value.int .i64 (IntKind.i64.wrap (x * 256))) w = _
 rw [wrap_i64 (by omega) (by omega)]
theorem aaC {x y : Int} (j : Nat) (hx : 0 ≤ x) (hd : x % ((2 ^ j : Nat) : Int) = 0) (hy : 0 ≤ y) (hy2 : y < ((2 ^ j : Nat) : Int)) (hb : x + y ≤ 9223372036854775807) : bits .or .i64 x y = x + y := by
 obtain ⟨a, rfl⟩ := Int.eq_ofNat_of_zero_le hx
 obtain ⟨b, rfl⟩ := Int.eq_ofNat_of_zero_le hy
 have hd' : a % 2 ^ j = 0 := by exact_mod_cast hd
 have hb' : b < 2 ^ j := by exact_mod_cast hy2
 have e64 : ((2 ^ IntKind.i64.bits : Nat) : Int) = 18446744073709551616 := by decide
 have key : (BitVec.ofInt IntKind.i64.bits (a : Int) ||| BitVec.ofInt IntKind.i64.bits (b : Int)).toNat = a + b := by
  rw [BitVec.toNat_or, BitVec.toNat_ofInt, BitVec.toNat_ofInt, e64]
  rw [Int.emod_eq_of_lt (by omega) (by omega), Int.emod_eq_of_lt (by omega) (by omega), Int.toNat_natCast, Int.toNat_natCast]
  have h1 := Nat.shiftLeft_add_eq_or_of_lt hb' (a / 2 ^ j)
  rw [Nat.shiftLeft_eq, Nat.div_mul_cancel (Nat.dvd_of_mod_eq_zero hd')] at h1
  exact h1.symm
 show IntKind.i64.wrap (((BitVec.ofInt IntKind.i64.bits (a : Int) ||| BitVec.ofInt IntKind.i64.bits (b : Int)).toNat : Nat) : Int) = _
 rw [key, wrap_i64 (by omega) (by omega)]
 omega
theorem Pi (t : TypeId) {x y : Int} (h : 0 ≤ x ∧ x % 64 = 0 ∧ x ≤ 4294967296) (hy : 0 ≤ y ∧ y < 64) : (binOp .or t (.int .i64 x) (.int .i64 y)).run P w = .ok (.int .i64 (x + y)) w := by
 rw [orB, aaC 6 h.1 h.2.1 hy.1 hy.2 (by omega)]
theorem or8 (t : TypeId) {x y : Int} (h : 0 ≤ x ∧ x % 256 = 0 ∧ x ≤ 4294967296) (hy : 0 ≤ y ∧ y < 256) : (binOp .or t (.int .i64 x) (.int .i64 y)).run P w = .ok (.int .i64 (x + y)) w := by
 rw [orB, aaC 8 h.1 h.2.1 hy.1 hy.2 (by omega)]
theorem ah4 (t : TypeId) (x : Int) : (binOp .and t (.int .i64 x) (.int .i64 63)).run P w = .ok (.int .i64 (x % 64)) w := by
 have := acL x 6 (by decide)
 have h : (binOp .and t (.int .i64 x) (.int .i64 63)).run P w = .ok (.int .i64 (bits .and .i64 x 63)) w := rfl
 rw [h, show (63 : Int) = ((2 ^ 6 - 1 : Nat) : Int) from rfl, this]; rfl
theorem aaD {x : Int} (hx : 0 ≤ x ∧ x ≤ 255) : bits .and .u8 x 15 = x % 16 := wB (p := fun x => bits .and .u8 x 15 = x % 16) (by decide +kernel) hx
theorem VW (t : TypeId) {x : Int} (hx : 0 ≤ x ∧ x ≤ 255) : (binOp .and t (.int .u8 x) (.int .u8 15)).run P w = .ok (.int .u8 (x % 16)) w := by rw [Kr, aaD hx]
theorem Q9 {x : Int} (hx : 0 ≤ x ∧ x ≤ 255) : bits .andNot .u8 x 63 = x / 64 * 64 := wB (p := fun x => bits .andNot .u8 x 63 = x / 64 * 64) (by decide +kernel) hx
theorem Xx (t : TypeId) {x : Int} (hx : 0 ≤ x ∧ x ≤ 255) : (binOp .andNot t (.int .u8 x) (.int .u8 63)).run P w = .ok (.int .u8 (x / 64 * 64)) w := by rw [VV, Q9 hx]
end Go.Sh
namespace Go.Sh
open Go
variable {P : Program} {w : World}
theorem agd {s t : TypeId} {k : IntKind} {n : Int} (hs : (yK P s).isSome = true) (ht : yK P t = some .u8) : (convert s t (.int k n)).run P w = .ok (.int .u8 (n % 256)) w := by
 rw [LC hs ht, IntKind.wrap_u8]
end Go.Sh
end
section
namespace Go.Sh
open Go
variable {P : Program} {w : World}
theorem UR {t : TypeId} (h : isStr P t = true) : P.underlying t = some .string := by
 unfold isStr at h
 split at h
 ·assumption
 ·cases h
theorem WA {t : TypeId} {s : ByteArray} {k k' : IntKind} {l h : Int} (ht : isStr P t = true) (h0 : 0 ≤ l) (h1 : l ≤ h) (h2 : h ≤ s.size) : (Instr.sliceAt t (.string s) (some (.int k l)) (some (.int k' h)) none).run P w = .ok (.string (s.extract l.toNat h.toNat)) w := by
 rw [run_sliceAt_string _ _ _ _ _ _ (UR ht)]; exact run_slice_string w t s k k' l h (UR ht) h0 h1 h2
end Go.Sh
end
section
namespace Go.Proofs
open Go.Shelf
def Tryz.UQ : Go.Shelf.Ren := ⟨fun | 171 => 77 | 243 => 128 | 246 => 156 | 283 => 174 | 284 => 175 | 285 => 176 | 286 => 177 | 129 => 193 | 317 => 192 | 318 => 194 | 319 => 195 | 320 => 196 | 337 => 202 | 338 => 203 | n => n, fun | 3 => 3 | 9 => 9 | 2 => 2 | 4 => 4 | 171 => 231 | 0 => 0 | 53 => 232 | 37 => 24 | 5 => 5 | 173 => 235 | 212 => 245 | 51 => 199 | 20 => 20 | 213 => 246 | 46 => 181 | 232 => 252 | 233 => 253 | n => n, fun | 17 => 1 | 18 => 2 | 19 => 3 | n => n⟩
theorem Tryz.laysM171 : Go.Proofs.LaysM.n171 Tryz.prog Tryz.UQ := {
 mixed := by kernel_rfl
 f129 := Tryz.func193.trans (congrArg some (by kernel_rfl))
 f171 := Tryz.func77.trans (congrArg some (by kernel_rfl))
 f243 := Tryz.func128.trans (congrArg some (by kernel_rfl))
 f246 := Tryz.func156.trans (congrArg some (by kernel_rfl))
 f283 := Tryz.func174.trans (congrArg some (by kernel_rfl))
 f284 := Tryz.func175.trans (congrArg some (by kernel_rfl))
 f285 := Tryz.func176.trans (congrArg some (by kernel_rfl))
 f286 := Tryz.func177.trans (congrArg some (by kernel_rfl))
 f317 := Tryz.func192.trans (congrArg some (by kernel_rfl))
 f318 := Tryz.func194.trans (congrArg some (by kernel_rfl))
 f319 := Tryz.func195.trans (congrArg some (by kernel_rfl))
 f320 := Tryz.func196.trans (congrArg some (by kernel_rfl))
 f337 := Tryz.func202.trans (congrArg some (by kernel_rfl))
 f338 := Tryz.func203.trans (congrArg some (by kernel_rfl))
 t0 := Tryz.underlying0
 a0 := Tryz.isAgg0
 z0 := Tryz.sizeOf0
 v0 := Tryz.zeroValue0
 t2 := Tryz.underlying2
 a2 := Tryz.isAgg2
 z2 := Tryz.sizeOf2
 v2 := Tryz.zeroValue2
 t3 := Tryz.underlying3
 a3 := Tryz.isAgg3
 z3 := Tryz.sizeOf3
 v3 := Tryz.zeroValue3
 t4 := Tryz.underlying4
 a4 := Tryz.isAgg4
 z4 := Tryz.sizeOf4
 v4 := Tryz.zeroValue4
 t5 := Tryz.underlying5
 a5 := Tryz.isAgg5
 z5 := Tryz.sizeOf5
 v5 := Tryz.zeroValue5
 t9 := Tryz.underlying9
 a9 := Tryz.isAgg9
 z9 := Tryz.sizeOf9
 v9 := Tryz.zeroValue9
 t20 := Tryz.underlying20
 a20 := Tryz.isAgg20
 z20 := Tryz.sizeOf20
 v20 := Tryz.zeroValue20
 t37 := Tryz.underlying24
 a37 := Tryz.isAgg24
 z37 := Tryz.sizeOf24
 v37 := Tryz.zeroValue24
 t46 := Tryz.underlying181
 a46 := Tryz.isAgg181
 z46 := Tryz.sizeOf181
 v46 := Tryz.zeroValue181
 t51 := Tryz.underlying199
 a51 := Tryz.isAgg199
 z51 := Tryz.sizeOf199
 v51 := Tryz.zeroValue199
 t53 := Tryz.underlying232
 a53 := Tryz.isAgg232
 z53 := Tryz.sizeOf232
 v53 := Tryz.zeroValue232
 t171 := Tryz.underlying231
 a171 := Tryz.isAgg231
 z171 := Tryz.sizeOf231
 v171 := Tryz.zeroValue231
 t173 := Tryz.underlying235
 a173 := Tryz.isAgg235
 z173 := Tryz.sizeOf235
 v173 := Tryz.zeroValue235
 t212 := Tryz.underlying245
 a212 := Tryz.isAgg245
 z212 := Tryz.sizeOf245
 v212 := Tryz.zeroValue245
 t213 := Tryz.underlying246
 a213 := Tryz.isAgg246
 z213 := Tryz.sizeOf246
 t232 := Tryz.underlying252
 a232 := Tryz.isAgg252
 z232 := Tryz.sizeOf252
 v232 := Tryz.zeroValue252
 t233 := Tryz.underlying253
 a233 := Tryz.isAgg253
 z233 := Tryz.sizeOf253
 v233 := Tryz.zeroValue253
 g17 := by kernel_rfl
 g18 := by kernel_rfl
 g19 := by kernel_rfl
 i0 := by kernel_rfl
 i2 := by kernel_rfl
 i3 := by kernel_rfl
 i4 := by kernel_rfl
 i5 := by kernel_rfl
 i9 := by kernel_rfl
 i20 := by kernel_rfl
 i37 := by kernel_rfl
 i46 := by kernel_rfl
 i51 := by kernel_rfl
 i53 := by kernel_rfl
 i171 := by kernel_rfl
 i173 := by kernel_rfl
 i212 := by kernel_rfl
 i232 := by kernel_rfl
 i233 := by kernel_rfl
 m17 := by kernel_rfl
 m18 := by kernel_rfl
 m19 := by kernel_rfl }
open Go.RowKit Go.Sort Go.Lib in
theorem Tryz.strconv_Itoa (n : Int) (h0 : -9223372036854775808 ≤ n) (h1 : n ≤ 9223372036854775807) (w : World) (htab : Lib.TabIs Tryz.prog w "internal/strconv.uint64pow10" .u64 Lib.pow10Tab) :
  Calls Tryz.prog 77 #[.int .i64 n] w fun e w' => e = .returned (.string ⟨(Lib.itoa n).toArray⟩) ∧ ∃ k os, w' = grow (w.drewN k) os := Any.strconv_Itoa Tryz.laysM171 n h0 h1 w htab
def Tryz.VS : Go.Shelf.Ren := ⟨fun | 171 => 77 | 243 => 128 | 246 => 156 | 283 => 174 | 284 => 175 | 285 => 176 | 286 => 177 | 129 => 193 | 317 => 192 | 318 => 194 | 319 => 195 | 320 => 196 | 337 => 202 | 338 => 203 | n => n, fun | 3 => 3 | 9 => 9 | 2 => 2 | 4 => 4 | 171 => 231 | 0 => 0 | 53 => 232 | 37 => 24 | 5 => 5 | 173 => 235 | 212 => 245 | 51 => 199 | 20 => 20 | 213 => 246 | 46 => 181 | 232 => 252 | 233 => 253 | n => n, fun | 17 => 1 | 18 => 2 | 19 => 3 | n => n⟩
theorem Tryz.lays171 : Go.Proofs.Lays.n171 Tryz.prog Tryz.VS := {
 mixed := by kernel_rfl
 f129 := Tryz.func193.trans (congrArg some (by kernel_rfl))
 f171 := Tryz.func77.trans (congrArg some (by kernel_rfl))
 f243 := Tryz.func128.trans (congrArg some (by kernel_rfl))
 f246 := Tryz.func156.trans (congrArg some (by kernel_rfl))
 f283 := Tryz.func174.trans (congrArg some (by kernel_rfl))
 f284 := Tryz.func175.trans (congrArg some (by kernel_rfl))
 f285 := Tryz.func176.trans (congrArg some (by kernel_rfl))
 f286 := Tryz.func177.trans (congrArg some (by kernel_rfl))
 f317 := Tryz.func192.trans (congrArg some (by kernel_rfl))
 f318 := Tryz.func194.trans (congrArg some (by kernel_rfl))
 f319 := Tryz.func195.trans (congrArg some (by kernel_rfl))
 f320 := Tryz.func196.trans (congrArg some (by kernel_rfl))
 f337 := Tryz.func202.trans (congrArg some (by kernel_rfl))
 f338 := Tryz.func203.trans (congrArg some (by kernel_rfl))
 t0 := Tryz.underlying0
 a0 := Tryz.isAgg0
 z0 := Tryz.sizeOf0
 v0 := Tryz.zeroValue0
 t2 := Tryz.underlying2
 a2 := Tryz.isAgg2
 z2 := Tryz.sizeOf2
 v2 := Tryz.zeroValue2
 t3 := Tryz.underlying3
 a3 := Tryz.isAgg3
 z3 := Tryz.sizeOf3
 v3 := Tryz.zeroValue3
 t4 := Tryz.underlying4
 a4 := Tryz.isAgg4
 z4 := Tryz.sizeOf4
 v4 := Tryz.zeroValue4
 t5 := Tryz.underlying5
 a5 := Tryz.isAgg5
 z5 := Tryz.sizeOf5
 v5 := Tryz.zeroValue5
 t9 := Tryz.underlying9
 a9 := Tryz.isAgg9
 z9 := Tryz.sizeOf9
 v9 := Tryz.zeroValue9
 t20 := Tryz.underlying20
 a20 := Tryz.isAgg20
 z20 := Tryz.sizeOf20
 v20 := Tryz.zeroValue20
 t37 := Tryz.underlying24
 a37 := Tryz.isAgg24
 z37 := Tryz.sizeOf24
 v37 := Tryz.zeroValue24
 t46 := Tryz.underlying181
 a46 := Tryz.isAgg181
 z46 := Tryz.sizeOf181
 v46 := Tryz.zeroValue181
 t51 := Tryz.underlying199
 a51 := Tryz.isAgg199
 z51 := Tryz.sizeOf199
 v51 := Tryz.zeroValue199
 t53 := Tryz.underlying232
 a53 := Tryz.isAgg232
 z53 := Tryz.sizeOf232
 v53 := Tryz.zeroValue232
 t171 := Tryz.underlying231
 a171 := Tryz.isAgg231
 z171 := Tryz.sizeOf231
 v171 := Tryz.zeroValue231
 t173 := Tryz.underlying235
 a173 := Tryz.isAgg235
 z173 := Tryz.sizeOf235
 v173 := Tryz.zeroValue235
 t212 := Tryz.underlying245
 a212 := Tryz.isAgg245
 z212 := Tryz.sizeOf245
 v212 := Tryz.zeroValue245
 t213 := Tryz.underlying246
 a213 := Tryz.isAgg246
 z213 := Tryz.sizeOf246
 t232 := Tryz.underlying252
 a232 := Tryz.isAgg252
 z232 := Tryz.sizeOf252
 v232 := Tryz.zeroValue252
 t233 := Tryz.underlying253
 a233 := Tryz.isAgg253
 z233 := Tryz.sizeOf253
 v233 := Tryz.zeroValue253
 g17 := by kernel_rfl
 g18 := by kernel_rfl
 g19 := by kernel_rfl }
open Go.RowKit Go.Sort Go.Lib in
theorem Tryz.strconv_Itoa_small (i : Nat) (hi : i < 100) (w : World) :
  Calls Tryz.prog 77 #[.int .i64 i] w fun e w' => e = .returned (.string ⟨(Lib.decDigits i).toArray⟩) ∧ w' = w := Any.strconv_Itoa_small Tryz.lays171 i hi w
end Go.Proofs
end
section
namespace Go.Proofs.YtjdoakbadehicaaGreatDoor
open Go Go.Sh
set_option maxRecDepth 100000
theorem ac9 {n : Int} {w : World} (hn : 0 ≤ n ∧ n < 100) : oX 77 #[Z.i n] w fun e w' => e = .returned (.string (Gs.yj n)) ∧ aA no w w' := by
  obtain ⟨m, rfl⟩ := Int.eq_ofNat_of_zero_le hn.1
  rw [Gs.PK]
  exact (Go.Proofs.Tryz.strconv_Itoa_small m (by omega) w).mono fun e w' h => ⟨h.1, by rw [h.2]; exact Fr.refl _ _ _⟩
theorem IA {v : Int} {w : World} :
    oX 114 #[Z.i v] w fun e w' => e = .returned (Z.u (Gs.nM v)) ∧ aA no w w' := by
 refine Yu.calls ?_
 unfold Yu
 have hvm : 0 ≤ v % 64 ∧ v % 64 < 64 := by omega
 have hF : aA no w w := Fr.refl _ _ _
 refine ak (ah4 _ _) ?_
 refine ak (aim _ (by omega) (by omega) (by omega)) ?_
 refine az (geq _ _ _ _) (fun h1 => ?_) (fun h1 => ?_)
 refine aX (aX ?_)
 refine az (leq _ _ _ _) (fun h2 => ?_) (fun h2 => ?_)
 refine aT (aX (aX ?_))
 refine az (kR _ _ _ _ _) (fun h3 => ?_) (fun h3 => ?_)
 refine aT (bu (bu (aT (aJ ?_))))
 refine ak (Pi _ (by omega) (by omega)) ?_
 refine ak (xG (by kernel_rfl) (by kernel_rfl) (by omega)) ?_
 exact ⟨nD (by unfold Gs.nM; dsimp only; (rw [if_pos (by omega)] <;> omega)), hF⟩
 refine aT (bD (bD ?_))
 refine az (cZ _ _ _ _ _) (fun h5 => ?_) (fun h5 => ?_)
 refine aU (aJ ?_)
 refine ak (Pi _ (by omega) (by omega)) ?_
 refine ak (xG (by kernel_rfl) (by kernel_rfl) (by omega)) ?_
 exact ⟨nD (by unfold Gs.nM; dsimp only; (rw [if_pos (by omega)] <;> omega)), hF⟩
 refine aU (aC ?_)
 refine ak (Pi _ (by omega) (by omega)) ?_
 refine ak (xG (by kernel_rfl) (by kernel_rfl) (by omega)) ?_
 exact ⟨nD (by unfold Gs.nM; dsimp only; (rw [if_neg (by omega)] <;> omega)), hF⟩
 refine aT (aQ (aQ (aU (bD (bD ?_)))))
 refine az (cZ _ _ _ _ _) (fun h8 => ?_) (fun h8 => ?_)
 refine aU (aJ ?_)
 refine ak (Pi _ (by omega) (by omega)) ?_
 refine ak (xG (by kernel_rfl) (by kernel_rfl) (by omega)) ?_
 exact ⟨nD (by unfold Gs.nM; dsimp only; (rw [if_pos (by omega)] <;> omega)), hF⟩
 refine aU (aC ?_)
 refine ak (Pi _ (by omega) (by omega)) ?_
 refine ak (xG (by kernel_rfl) (by kernel_rfl) (by omega)) ?_
 exact ⟨nD (by unfold Gs.nM; dsimp only; (rw [if_neg (by omega)] <;> omega)), hF⟩
 refine aQ (aQ (aU (aQ (aQ (aU (bD (bD ?_)))))))
 refine az (cZ _ _ _ _ _) (fun h11 => ?_) (fun h11 => ?_)
 refine aU (aJ ?_)
 refine ak (Pi _ (by omega) (by omega)) ?_
 refine ak (xG (by kernel_rfl) (by kernel_rfl) (by omega)) ?_
 exact ⟨nD (by unfold Gs.nM; dsimp only; (rw [if_pos (by omega)] <;> omega)), hF⟩
 refine aU (aC ?_)
 refine ak (Pi _ (by omega) (by omega)) ?_
 refine ak (xG (by kernel_rfl) (by kernel_rfl) (by omega)) ?_
 exact ⟨nD (by unfold Gs.nM; dsimp only; (rw [if_neg (by omega)] <;> omega)), hF⟩
theorem IB {a : Int} {w : World} (ha : 0 ≤ a ∧ a ≤ 255) :
    oX 159 #[Z.u a] w fun e w' => e = .returned (Z.i (a % 64)) ∧ aA no w w' := by
 refine YM.calls ?_
 unfold YM
 have hF : aA no w w := Fr.refl _ _ _
 refine ak (Es _ (by omega)) ?_
 refine ak (jV (by kernel_rfl) (by kernel_rfl) (by omega)) ?_
 exact ⟨rfl, hF⟩
theorem G7 {a b : Int} {w : World} (ha : 0 ≤ a ∧ a ≤ 255) (hb : 0 ≤ b ∧ b ≤ 255) :
    oX 138 #[Z.u a, Z.u b] w fun e w' => e = .returned (Z.i (Gs.uD a b)) ∧ aA no w w' := by
 refine YF.calls ?_
 unfold YF
 have hF : aA no w w := Fr.refl _ _ _
 refine ak (Xx _ (by omega)) ?_
 refine az (cZ _ _ _ _ _) (fun h1 => ?_) (fun h1 => ?_)
 refine aJ ?_
 refine ak (jV (by kernel_rfl) (by kernel_rfl) (by omega)) ?_
 refine ak (ah3 _ (by omega)) ?_
 refine ak (jV (by kernel_rfl) (by kernel_rfl) (by omega)) ?_
 refine ak (or8 _ (by omega) (by omega)) ?_
 exact ⟨nD (by unfold Gs.uD; (rw [if_pos (by omega)] <;> omega)), hF⟩
 refine aC ?_
 refine aB (IB ha) (fun w3 U3 => ?_)
 refine ak (amR _ (by omega)) ?_
 refine aB (IB hb) (fun w4 U4 => ?_)
 refine ak (Pi _ (by omega) (by omega)) ?_
 replace hF := (hF.go0 U3).go0 U4
 exact ⟨nD (by unfold Gs.uD; (rw [if_neg (by omega)] <;> omega)), hF⟩
theorem QK {p n : Int} {w : World} :
    oX 113 #[Z.i p, Z.i n] w fun e w' => e = .returned (.tuple #[.agg #[Z.u (Gs.pI p n).1, Z.u (Gs.pI p n).2.1], Z.i (Gs.pI p n).2.2]) ∧ aA no w w' := by
 refine Yr.calls ?_
 unfold Yr
 have hF : aA no w w := Fr.refl _ _ _
 refine Z.n (#[Z.u 0, Z.u 0]) (fun b1 w1 e1 ah _ U1 => ?_)
 have bZ : w.heap.size ≤ b1 := by have := hF.size; omega
 refine az (lss _ _ _ _) (fun h2 => ?_) (fun h2 => ?_)
 refine bu (bu (aT (bu (bu (aT (bu (bu (bu (aT (aJ ?_))))))))))
 refine ak (sQ (n := 2) (m := 1) (z := #[Z.u 0, Z.u 0]) (by kernel_rfl) (by kernel_rfl) (by (simp [eP, splice, gu, Value.cells, Gs.cv]; rfl))) ?_
 refine gK (n := 2) (by kernel_rfl) (by rfl) (by (simp [Value.cells, Value.oneCell', Gs.cv]; done)) ah (Nat.le_of_ble_eq_true rfl) (by (simp; rfl)) (fun w3 ah _ U3 => ?_)
 refine Z.a 2 ah ?_
 replace hF := (hF.go0 U1).go1 U3 bZ
 rw [Gs.FT (by omega)]; exact ⟨rfl, hF⟩
 refine bD (bD ?_)
 refine az (gtr _ _ _ _) (fun h5 => ?_) (fun h5 => ?_)
 refine aU (bu (bu (aT (bu (bu (bu (aT (aJ ?_))))))))
 refine ak (sQ (n := 2) (m := 1) (z := #[Z.u 0, Z.u 0]) (by kernel_rfl) (by kernel_rfl) (by (simp [eP, splice, gu, Value.cells, Gs.cv]; rfl))) ?_
 refine gK (n := 2) (by kernel_rfl) (by rfl) (by (simp [Value.cells, Value.oneCell', Gs.cv]; done)) ah (Nat.le_of_ble_eq_true rfl) (by (simp; rfl)) (fun w6 ah _ U6 => ?_)
 refine Z.a 2 ah ?_
 replace hF := (hF.go0 U1).go1 U6 bZ
 rw [Gs.FT (by omega)]; exact ⟨rfl, hF⟩
 refine aU (bD (bD ?_))
 refine az (lss _ _ _ _) (fun h8 => ?_) (fun h8 => ?_)
 refine aU (bu (bu (bu (aT (aJ ?_)))))
 refine ak (sQ (n := 2) (m := 1) (z := #[Z.u 0, Z.u 0]) (by kernel_rfl) (by kernel_rfl) (by (simp [eP, splice, gu, Value.cells, Gs.cv]; rfl))) ?_
 refine gK (n := 2) (by kernel_rfl) (by rfl) (by (simp [Value.cells, Value.oneCell', Gs.cv]; done)) ah (Nat.le_of_ble_eq_true rfl) (by (simp; rfl)) (fun w9 ah _ U9 => ?_)
 refine Z.a 2 ah ?_
 replace hF := (hF.go0 U1).go1 U9 bZ
 rw [Gs.FT (by omega)]; exact ⟨rfl, hF⟩
 refine aU (bD (bD (bD ?_)))
 refine az (geq _ _ _ _) (fun h11 => ?_) (fun h11 => ?_)
 refine aU (aJ ?_)
 refine ak (sQ (n := 2) (m := 1) (z := #[Z.u 0, Z.u 0]) (by kernel_rfl) (by kernel_rfl) (by (simp [eP, splice, gu, Value.cells, Gs.cv]; rfl))) ?_
 refine gK (n := 2) (by kernel_rfl) (by rfl) (by (simp [Value.cells, Value.oneCell', Gs.cv]; done)) ah (Nat.le_of_ble_eq_true rfl) (by (simp; rfl)) (fun w12 ah _ di => ?_)
 refine Z.a 2 ah ?_
 replace hF := (hF.go0 U1).go1 di bZ
 rw [Gs.FT (by omega)]; exact ⟨rfl, hF⟩
 refine aU (aC ?_)
 refine az (gtr _ _ _ _) (fun h14 => ?_) (fun h14 => ?_)
 refine aJ ?_
 refine ak (amQ _ _) ?_
 refine ak (xG (by kernel_rfl) (by kernel_rfl) (by omega)) ?_
 refine ak (agd (by kernel_rfl) (by kernel_rfl)) ?_
 refine ak (sQ (n := 2) (m := 1) (z := #[Z.u 0, Z.u 0]) (by kernel_rfl) (by kernel_rfl) (by (simp [eP, splice, gu, Value.cells, Gs.cv]; rfl))) ?_
 refine gK (n := 2) (by kernel_rfl) (by rfl) (by (simp [Value.cells, Value.oneCell', Gs.cv]; done)) ah (Nat.le_of_ble_eq_true rfl) (by (simp; rfl)) (fun w16 ah _ bQ => ?_)
 refine Z.a 2 ah ?_
 replace hF := (hF.go0 U1).go1 bQ bZ
 rw [Gs.ada (by omega) (by omega)]; exact ⟨rfl, hF⟩
 refine aC ?_
 refine ak (amP _ _) ?_
 refine aB (IA (v := p / 64)) (fun xx dM => ?_)
 refine aB (IA (v := p)) (fun Ar fC => ?_)
 refine ak (sQ (n := 2) (m := 1) (z := #[Z.u 0, Z.u 0]) (by kernel_rfl) (by kernel_rfl) (by (simp [eP, splice, gu, Value.cells, Gs.cv]; rfl))) ?_
 replace ah := fC.af (dM.af ah)
 refine gK (n := 2) (by kernel_rfl) (by rfl) (by (simp [Value.cells, Value.oneCell', Gs.cv]; done)) ah (Nat.le_of_ble_eq_true rfl) (by (simp; rfl)) (fun xu ah _ dR => ?_)
 refine Z.a 2 ah ?_
 replace hF := (((hF.go0 U1).go0 dM).go0 fC).go1 dR bZ
 rw [Gs.Zq (by omega) (by omega)]; exact ⟨rfl, hF⟩
theorem qU {b : Int} {w : World} :
    oX 115 #[Z.u b] w fun e w' => e = .returned (.bool (Gs.fF b)) ∧ aA no w w' := by
 refine Yv.calls ?_
 unfold Yv
 have hF : aA no w w := Fr.refl _ _ _
 refine bM (fun g w' => ∃ (q : Bool), (g 4 = .bool q) ∧ (q = decide (b = 0 ∨ b = 12 ∨ b = 13 ∨ b = 21 ∨ b = 25 ∨ b = 28 ∨ b = 30 ∨ b = 63)) ∧ (aA no w w')) (fun J1 hJ1 => ?_) (fun gJ1 jT hI => ?_)
 refine az (cZ _ _ _ _ _) (fun h1 => ?_) (fun h1 => ?_)
 refine aJ ?_
 refine hJ1 _ _ ?_
 exact ⟨_, (by rfl), (by exact (decide_eq_true (by omega)).symm), hF⟩
 refine aC ?_
 refine az (cZ _ _ _ _ _) (fun h2 => ?_) (fun h2 => ?_)
 refine aJ ?_
 refine hJ1 _ _ ?_
 exact ⟨_, (by rfl), (by exact (decide_eq_true (by omega)).symm), hF⟩
 refine aC ?_
 refine az (cZ _ _ _ _ _) (fun h3 => ?_) (fun h3 => ?_)
 refine aJ ?_
 refine hJ1 _ _ ?_
 exact ⟨_, (by rfl), (by exact (decide_eq_true (by omega)).symm), hF⟩
 refine aC ?_
 refine az (cZ _ _ _ _ _) (fun h4 => ?_) (fun h4 => ?_)
 refine aJ ?_
 refine hJ1 _ _ ?_
 exact ⟨_, (by rfl), (by exact (decide_eq_true (by omega)).symm), hF⟩
 refine aC ?_
 refine az (cZ _ _ _ _ _) (fun h5 => ?_) (fun h5 => ?_)
 refine aJ ?_
 refine hJ1 _ _ ?_
 exact ⟨_, (by rfl), (by exact (decide_eq_true (by omega)).symm), hF⟩
 refine aC ?_
 refine az (cZ _ _ _ _ _) (fun h6 => ?_) (fun h6 => ?_)
 refine aJ ?_
 refine hJ1 _ _ ?_
 exact ⟨_, (by rfl), (by exact (decide_eq_true (by omega)).symm), hF⟩
 refine aC ?_
 refine az (cZ _ _ _ _ _) (fun h7 => ?_) (fun h7 => ?_)
 refine aJ ?_
 refine hJ1 _ _ ?_
 exact ⟨_, (by rfl), (by exact (decide_eq_true (by omega)).symm), hF⟩
 refine aC ?_
 refine az (cZ _ _ _ _ _) (fun h8 => ?_) (fun h8 => ?_)
 refine hJ1 _ _ ?_
 exact ⟨_, (by rfl), (by exact (decide_eq_true (by omega)).symm), hF⟩
 refine hJ1 _ _ ?_
 exact ⟨_, (by rfl), (by exact (decide_eq_false (by omega)).symm), hF⟩
 obtain ⟨q, g4, hq, hF⟩ := hI
 rw [g4]
 refine jQ (fun h9 => ?_) (fun h9 => ?_)
 rw [Gs.Zr (of_decide_eq_true (hq.symm.trans (by assumption)))]; exact ⟨rfl, hF⟩
 refine ak (geq _ _ _ _) ?_
 rw [Gs.adb (of_decide_eq_false (hq.symm.trans (by assumption)))]; exact ⟨rfl, hF⟩
theorem OB {page : Int} {c : Gs.Cell} {w : World} (hc : 0 ≤ c.b ∧ c.b ≤ 255) :
    oX 78 #[Z.i page, .agg (Gs.cv c).toArray] w fun e w' => e = .returned (.string (Utf8.encode (Gs.uK page c))) ∧ aA no w w' := by
 refine F78.calls ?_
 unfold F78
 have hF : aA no w w := Fr.refl _ _ _
 refine Z.x ((Gs.cv c).toArray) (fun b1 w1 e1 ah _ U1 => ?_)
 refine Z.f 2 ?_
 refine pK (kZ (by kernel_rfl) ah (by rfl)) (fun h2 => ?_) (fun h2 => ?_)
 refine bu (bu (bu (bu (rG (rG (rG (rG (bu (aT (aJ ?_))))))))))
 replace hF := hF.go0 U1
 exact ⟨congrArg (fun r => Ending.returned (.string r)) (by exact (Gs.Tz (.inl (by assumption)))), hF⟩
 refine bD ?_
 refine Z.f 1 ?_
 refine bD ?_
 refine pK (kZ (by kernel_rfl) ah (by rfl)) (fun h4 => ?_) (fun h4 => ?_)
 refine bD ?_
 refine ak (lV) ?_
 refine bD (aQ (aQ (aQ (aQ (bD (aU (aU (aC ?_))))))))
 refine Z.f 1 ?_
 refine pK (kZ (by kernel_rfl) ah (by rfl)) (fun h5 => ?_) (fun h5 => ?_)
 refine aJ ?_
 refine Z.f 0 ?_
 refine Z.l ah ?_
 refine aB (Ey (by omega) (by omega)) (fun w6 U6 => ?_)
 refine ak (MO (by kernel_rfl) (by kernel_rfl)) ?_
 replace hF := (hF.go0 U1).go0 U6
 exact ⟨congrArg (fun r => Ending.returned (.string r)) (by exact (congrArg Utf8.encode (Gs.TA (by simp_all) (by assumption))).symm), hF⟩
 refine aC ?_
 refine Z.f 0 ?_
 refine Z.l ah ?_
 refine aB (DU (by omega) (by omega)) (fun w8 U8 => ?_)
 refine ak (MO (by kernel_rfl) (by kernel_rfl)) ?_
 replace hF := (hF.go0 U1).go0 U8
 exact ⟨congrArg (fun r => Ending.returned (.string r)) (by exact absurd (Eq.trans (Eq.symm (show c.ge = true by assumption)) (show c.ge = false by assumption)) (by decide)), hF⟩
 refine bD ?_
 refine ak (nI) ?_
 refine bD (aX ?_)
 refine Z.f 0 ?_
 refine aX ?_
 refine Z.l ah ?_
 refine aX ?_
 refine dQ (Oi) (fun w10 aY h10 => ?_) (fun w10 aY h10 => ?_)
 simp only [Z.d, Z.c] at h10
 refine aX ?_
 refine ak (lV) ?_
 refine bD (aT (aU (aC ?_)))
 refine Z.f 1 ?_
 replace ah := aY.af ah
 refine pK (kZ (by kernel_rfl) ah (by rfl)) (fun h11 => ?_) (fun h11 => ?_)
 refine aJ ?_
 refine Z.f 0 ?_
 refine Z.l ah ?_
 refine aB (Ey (by omega) (by omega)) (fun w12 di => ?_)
 refine ak (MO (by kernel_rfl) (by kernel_rfl)) ?_
 replace hF := ((hF.go0 U1).go0 aY).go0 di
 exact ⟨congrArg (fun r => Ending.returned (.string r)) (by exact (congrArg Utf8.encode (Gs.TA (by simp_all) (by assumption))).symm), hF⟩
 refine aC ?_
 refine Z.f 0 ?_
 refine Z.l ah ?_
 refine aB (DU (by omega) (by omega)) (fun sO dC => ?_)
 refine ak (MO (by kernel_rfl) (by kernel_rfl)) ?_
 replace hF := ((hF.go0 U1).go0 aY).go0 dC
 exact ⟨congrArg (fun r => Ending.returned (.string r)) (by exact (congrArg Utf8.encode (Gs.adc (by simp_all) (by simp_all) (by omega))).symm), hF⟩
 simp only [Z.d, Z.c] at h10
 refine aX ?_
 refine ak (nI) ?_
 refine bD (aT (aU (aJ ?_)))
 replace hF := (hF.go0 U1).go0 aY
 exact ⟨congrArg (fun r => Ending.returned (.string r)) (by exact (Gs.Tz (.inr ⟨by assumption, by omega⟩))), hF⟩
theorem Hq {b : Int} {w : World} (hb : 0 ≤ b ∧ b ≤ 255) :
    oX 81 #[Z.u b] w fun e w' => e = .returned (Z.i (Gs.kQ b)) ∧ aA no w w' := by
 refine F81.calls ?_
 unfold F81
 have hF : aA no w w := Fr.refl _ _ _
 refine bM (fun g w' => (g 3 = Z.i (Gs.kQ b)) ∧ (aA no w w')) (fun J1 hJ1 => ?_) (fun gJ1 jT hI => ?_)
 refine az (geq _ _ _ _) (fun h1 => ?_) (fun h1 => ?_)
 refine aX (aX ?_)
 refine az (leq _ _ _ _) (fun h2 => ?_) (fun h2 => ?_)
 refine aT (aJ ?_)
 refine ak (qC _ (by omega)) ?_
 refine ak (jV (by kernel_rfl) (by kernel_rfl) (by omega)) ?_
 refine hJ1 _ _ ?_
 exact ⟨(congrArg (Value.int .i64) (by unfold Gs.kQ; (rw [if_pos (by omega)] <;> omega))), hF⟩
 refine aT (aC ?_)
 refine az (geq _ _ _ _) (fun h3 => ?_) (fun h3 => ?_)
 refine aX (aX ?_)
 refine az (leq _ _ _ _) (fun h4 => ?_) (fun h4 => ?_)
 refine aT (aJ ?_)
 refine ak (qC _ (by omega)) ?_
 refine ak (jV (by kernel_rfl) (by kernel_rfl) (by omega)) ?_
 refine ak (dK _ (by omega)) ?_
 refine hJ1 _ _ ?_
 exact ⟨(congrArg (Value.int .i64) (by unfold Gs.kQ; (rw [if_pos (by omega)] <;> omega))), hF⟩
 refine aT (aC ?_)
 refine az (geq _ _ _ _) (fun h5 => ?_) (fun h5 => ?_)
 refine aX (aX ?_)
 refine az (leq _ _ _ _) (fun h6 => ?_) (fun h6 => ?_)
 refine aT (aJ ?_)
 refine ak (qC _ (by omega)) ?_
 refine ak (jV (by kernel_rfl) (by kernel_rfl) (by omega)) ?_
 refine ak (dK _ (by omega)) ?_
 refine hJ1 _ _ ?_
 exact ⟨(congrArg (Value.int .i64) (by unfold Gs.kQ; (rw [if_pos (by omega)] <;> omega))), hF⟩
 refine aT (aC ?_)
 refine az (geq _ _ _ _) (fun h7 => ?_) (fun h7 => ?_)
 refine aX (aX ?_)
 refine az (leq _ _ _ _) (fun h8 => ?_) (fun h8 => ?_)
 refine aT (aJ ?_)
 refine ak (qC _ (by omega)) ?_
 refine ak (jV (by kernel_rfl) (by kernel_rfl) (by omega)) ?_
 refine ak (dK _ (by omega)) ?_
 refine hJ1 _ _ ?_
 exact ⟨(congrArg (Value.int .i64) (by unfold Gs.kQ; (rw [if_pos (by omega)] <;> omega))), hF⟩
 refine aT (aC ?_)
 refine hJ1 _ _ ?_
 exact ⟨(congrArg (Value.int .i64) (by unfold Gs.kQ; (rw [if_neg (by omega), if_neg (by omega), if_neg (by omega), if_neg (by omega)]))), hF⟩
 refine aQ (aQ (aU (aC ?_)))
 refine hJ1 _ _ ?_
 exact ⟨(congrArg (Value.int .i64) (by unfold Gs.kQ; (rw [if_pos (by omega)] <;> omega))), hF⟩
 refine aQ (aQ (aU (aC ?_)))
 refine az (geq _ _ _ _) (fun h9 => ?_) (fun h9 => ?_)
 refine aX (aX ?_)
 refine az (leq _ _ _ _) (fun h10 => ?_) (fun h10 => ?_)
 refine aT (aJ ?_)
 refine ak (qC _ (by omega)) ?_
 refine ak (jV (by kernel_rfl) (by kernel_rfl) (by omega)) ?_
 refine ak (dK _ (by omega)) ?_
 refine hJ1 _ _ ?_
 exact ⟨(congrArg (Value.int .i64) (by unfold Gs.kQ; (rw [if_pos (by omega)] <;> omega))), hF⟩
 refine aT (aC ?_)
 refine hJ1 _ _ ?_
 exact ⟨(congrArg (Value.int .i64) (by unfold Gs.kQ; (rw [if_pos (by omega)] <;> omega))), hF⟩
 refine aQ (aQ (aU (aC ?_)))
 refine hJ1 _ _ ?_
 exact ⟨(congrArg (Value.int .i64) (by unfold Gs.kQ; (rw [if_pos (by omega)] <;> omega))), hF⟩
 refine aQ (aQ (aU (aC ?_)))
 refine az (geq _ _ _ _) (fun h11 => ?_) (fun h11 => ?_)
 refine aX (aX ?_)
 refine az (leq _ _ _ _) (fun h12 => ?_) (fun h12 => ?_)
 refine aT (aJ ?_)
 refine ak (qC _ (by omega)) ?_
 refine ak (jV (by kernel_rfl) (by kernel_rfl) (by omega)) ?_
 refine ak (dK _ (by omega)) ?_
 refine hJ1 _ _ ?_
 exact ⟨(congrArg (Value.int .i64) (by unfold Gs.kQ; (rw [if_pos (by omega)] <;> omega))), hF⟩
 refine aT (aC ?_)
 refine az (geq _ _ _ _) (fun h13 => ?_) (fun h13 => ?_)
 refine aX (aX ?_)
 refine az (leq _ _ _ _) (fun h14 => ?_) (fun h14 => ?_)
 refine aT (aJ ?_)
 refine ak (qC _ (by omega)) ?_
 refine ak (jV (by kernel_rfl) (by kernel_rfl) (by omega)) ?_
 refine ak (dK _ (by omega)) ?_
 refine hJ1 _ _ ?_
 exact ⟨(congrArg (Value.int .i64) (by unfold Gs.kQ; (rw [if_pos (by omega)] <;> omega))), hF⟩
 refine aT (aC ?_)
 refine hJ1 _ _ ?_
 exact ⟨(congrArg (Value.int .i64) (by unfold Gs.kQ; (rw [if_pos (by omega)] <;> omega))), hF⟩
 refine aQ (aQ (aU (aC ?_)))
 refine hJ1 _ _ ?_
 exact ⟨(congrArg (Value.int .i64) (by unfold Gs.kQ; (rw [if_pos (by omega)] <;> omega))), hF⟩
 refine aQ (aQ (aU (aC ?_)))
 refine az (geq _ _ _ _) (fun h15 => ?_) (fun h15 => ?_)
 refine aX (aX ?_)
 refine az (leq _ _ _ _) (fun h16 => ?_) (fun h16 => ?_)
 refine aT (aJ ?_)
 refine ak (qC _ (by omega)) ?_
 refine ak (jV (by kernel_rfl) (by kernel_rfl) (by omega)) ?_
 refine ak (dK _ (by omega)) ?_
 refine hJ1 _ _ ?_
 exact ⟨(congrArg (Value.int .i64) (by unfold Gs.kQ; (rw [if_pos (by omega)] <;> omega))), hF⟩
 refine aT (aC ?_)
 refine hJ1 _ _ ?_
 exact ⟨(congrArg (Value.int .i64) (by unfold Gs.kQ; (rw [if_pos (by omega)] <;> omega))), hF⟩
 refine aQ (aQ (aU (aC ?_)))
 refine hJ1 _ _ ?_
 exact ⟨(congrArg (Value.int .i64) (by unfold Gs.kQ; (rw [if_pos (by omega)] <;> omega))), hF⟩
 refine aQ (aQ (aU (aC ?_)))
 refine az (geq _ _ _ _) (fun h17 => ?_) (fun h17 => ?_)
 refine aX (aX ?_)
 refine az (leq _ _ _ _) (fun h18 => ?_) (fun h18 => ?_)
 refine aT (aJ ?_)
 refine ak (qC _ (by omega)) ?_
 refine ak (jV (by kernel_rfl) (by kernel_rfl) (by omega)) ?_
 refine ak (dK _ (by omega)) ?_
 refine hJ1 _ _ ?_
 exact ⟨(congrArg (Value.int .i64) (by unfold Gs.kQ; (rw [if_neg (by omega), if_pos (by omega)] <;> omega))), hF⟩
 refine aT (aC ?_)
 refine az (geq _ _ _ _) (fun h19 => ?_) (fun h19 => ?_)
 refine aX (aX ?_)
 refine az (leq _ _ _ _) (fun h20 => ?_) (fun h20 => ?_)
 refine aT (aJ ?_)
 refine ak (qC _ (by omega)) ?_
 refine ak (jV (by kernel_rfl) (by kernel_rfl) (by omega)) ?_
 refine ak (dK _ (by omega)) ?_
 refine hJ1 _ _ ?_
 exact ⟨(congrArg (Value.int .i64) (by unfold Gs.kQ; (rw [if_neg (by omega), if_neg (by omega), if_pos (by omega)] <;> omega))), hF⟩
 refine aT (aC ?_)
 refine az (geq _ _ _ _) (fun h21 => ?_) (fun h21 => ?_)
 refine aX (aX ?_)
 refine az (leq _ _ _ _) (fun h22 => ?_) (fun h22 => ?_)
 refine aT (aJ ?_)
 refine ak (qC _ (by omega)) ?_
 refine ak (jV (by kernel_rfl) (by kernel_rfl) (by omega)) ?_
 refine ak (dK _ (by omega)) ?_
 refine hJ1 _ _ ?_
 exact ⟨(congrArg (Value.int .i64) (by unfold Gs.kQ; (rw [if_pos (by omega)] <;> omega))), hF⟩
 refine aT (aC ?_)
 refine hJ1 _ _ ?_
 exact ⟨(congrArg (Value.int .i64) (by unfold Gs.kQ; (rw [if_neg (by omega), if_neg (by omega), if_neg (by omega), if_neg (by omega)]))), hF⟩
 refine aQ (aQ (aU (aC ?_)))
 refine hJ1 _ _ ?_
 exact ⟨(congrArg (Value.int .i64) (by unfold Gs.kQ; (rw [if_pos (by omega)] <;> omega))), hF⟩
 refine aQ (aQ (aU (aC ?_)))
 refine az (geq _ _ _ _) (fun h23 => ?_) (fun h23 => ?_)
 refine aX (aX ?_)
 refine az (leq _ _ _ _) (fun h24 => ?_) (fun h24 => ?_)
 refine aT (aJ ?_)
 refine ak (qC _ (by omega)) ?_
 refine ak (jV (by kernel_rfl) (by kernel_rfl) (by omega)) ?_
 refine ak (dK _ (by omega)) ?_
 refine hJ1 _ _ ?_
 exact ⟨(congrArg (Value.int .i64) (by unfold Gs.kQ; (rw [if_pos (by omega)] <;> omega))), hF⟩
 refine aT (aC ?_)
 refine hJ1 _ _ ?_
 exact ⟨(congrArg (Value.int .i64) (by unfold Gs.kQ; (rw [if_neg (by omega), if_neg (by omega), if_neg (by omega), if_neg (by omega)]))), hF⟩
 refine aQ (aQ (aU (aC ?_)))
 refine hJ1 _ _ ?_
 exact ⟨(congrArg (Value.int .i64) (by unfold Gs.kQ; (rw [if_pos (by omega)] <;> omega))), hF⟩
 refine aQ (aQ (aU (aC ?_)))
 refine az (geq _ _ _ _) (fun h25 => ?_) (fun h25 => ?_)
 refine aX (aX ?_)
 refine az (leq _ _ _ _) (fun h26 => ?_) (fun h26 => ?_)
 refine aT (aJ ?_)
 refine ak (qC _ (by omega)) ?_
 refine ak (jV (by kernel_rfl) (by kernel_rfl) (by omega)) ?_
 refine ak (dK _ (by omega)) ?_
 refine hJ1 _ _ ?_
 exact ⟨(congrArg (Value.int .i64) (by unfold Gs.kQ; (rw [if_pos (by omega)] <;> omega))), hF⟩
 refine aT (aC ?_)
 refine az (geq _ _ _ _) (fun h27 => ?_) (fun h27 => ?_)
 refine aX (aX ?_)
 refine az (leq _ _ _ _) (fun h28 => ?_) (fun h28 => ?_)
 refine aT (aJ ?_)
 refine ak (qC _ (by omega)) ?_
 refine ak (jV (by kernel_rfl) (by kernel_rfl) (by omega)) ?_
 refine ak (dK _ (by omega)) ?_
 refine hJ1 _ _ ?_
 exact ⟨(congrArg (Value.int .i64) (by unfold Gs.kQ; (rw [if_pos (by omega)] <;> omega))), hF⟩
 refine aT (aC ?_)
 refine hJ1 _ _ ?_
 exact ⟨(congrArg (Value.int .i64) (by unfold Gs.kQ; (rw [if_pos (by omega)] <;> omega))), hF⟩
 refine aQ (aQ (aU (aC ?_)))
 refine hJ1 _ _ ?_
 exact ⟨(congrArg (Value.int .i64) (by unfold Gs.kQ; (rw [if_pos (by omega)] <;> omega))), hF⟩
 refine aQ (aQ (aU (aC ?_)))
 refine az (geq _ _ _ _) (fun h29 => ?_) (fun h29 => ?_)
 refine aX (aX ?_)
 refine az (leq _ _ _ _) (fun h30 => ?_) (fun h30 => ?_)
 refine aT (aJ ?_)
 refine ak (qC _ (by omega)) ?_
 refine ak (jV (by kernel_rfl) (by kernel_rfl) (by omega)) ?_
 refine ak (dK _ (by omega)) ?_
 refine hJ1 _ _ ?_
 exact ⟨(congrArg (Value.int .i64) (by unfold Gs.kQ; (rw [if_neg (by omega), if_neg (by omega), if_neg (by omega), if_pos (by omega)] <;> omega))), hF⟩
 refine aT (aC ?_)
 refine hJ1 _ _ ?_
 exact ⟨(congrArg (Value.int .i64) (by unfold Gs.kQ; (rw [if_neg (by omega), if_neg (by omega), if_neg (by omega), if_neg (by omega)]))), hF⟩
 refine aQ (aQ (aU (aC ?_)))
 refine hJ1 _ _ ?_
 exact ⟨(congrArg (Value.int .i64) (by unfold Gs.kQ; (rw [if_neg (by omega), if_neg (by omega), if_neg (by omega), if_neg (by omega)]))), hF⟩
 obtain ⟨g3, hF⟩ := hI
 rw [g3]
 exact ⟨rfl, hF⟩
theorem BZ {b : Int} {w : World} :
    oX 41 #[Z.u b] w fun e w' => e = .returned (.string (Gs.yZ b)) ∧ aA no w w' := by
 refine F41.calls ?_
 unfold F41
 have hF : aA no w w := Fr.refl _ _ _
 refine az (cZ _ _ _ _ _) (fun h1 => ?_) (fun h1 => ?_)
 refine aJ ?_
 exact ⟨congrArg (fun r => Ending.returned (.string r)) (by unfold Gs.yZ; rw [if_pos (by omega)]), hF⟩
 refine aC ?_
 refine az (cZ _ _ _ _ _) (fun h3 => ?_) (fun h3 => ?_)
 refine aJ ?_
 exact ⟨congrArg (fun r => Ending.returned (.string r)) (by unfold Gs.yZ; rw [if_neg (by omega), if_pos (by omega)]), hF⟩
 refine aC ?_
 refine az (cZ _ _ _ _ _) (fun h5 => ?_) (fun h5 => ?_)
 refine aJ ?_
 exact ⟨congrArg (fun r => Ending.returned (.string r)) (by unfold Gs.yZ; rw [if_neg (by omega), if_neg (by omega), if_pos (by omega)]), hF⟩
 refine aC ?_
 refine az (cZ _ _ _ _ _) (fun h7 => ?_) (fun h7 => ?_)
 refine aJ ?_
 exact ⟨congrArg (fun r => Ending.returned (.string r)) (by unfold Gs.yZ; rw [if_neg (by omega), if_neg (by omega), if_neg (by omega), if_pos (by omega)]), hF⟩
 refine aC ?_
 refine az (cZ _ _ _ _ _) (fun h9 => ?_) (fun h9 => ?_)
 refine aJ ?_
 exact ⟨congrArg (fun r => Ending.returned (.string r)) (by unfold Gs.yZ; rw [if_neg (by omega), if_neg (by omega), if_neg (by omega), if_neg (by omega), if_pos (by omega)]), hF⟩
 refine aC ?_
 exact ⟨congrArg (fun r => Ending.returned (.string r)) (by unfold Gs.yZ; rw [if_neg (by omega), if_neg (by omega), if_neg (by omega), if_neg (by omega), if_neg (by omega)]), hF⟩
theorem yt {b : Int} {w : World} (hb : 0 ≤ b ∧ b ≤ 255) :
    oX 40 #[Z.u b] w fun e w' => e = .returned (.string (Gs.y9 b)) ∧ aA no w w' := by
 refine F40.calls ?_
 unfold F40
 have hab := Gs.Wy b
 have hF : aA no w w := Fr.refl _ _ _
 refine aB (Hq hb) (fun w1 U1 => ?_)
 refine az (gtr _ _ _ _) (fun h2 => ?_) (fun h2 => ?_)
 refine aJ ?_
 refine aB (ac9 (n := Gs.kQ b) (by omega)) (fun w3 U3 => ?_)
 refine ak (OC (by have h2 := Gs.Vx (n := Gs.kQ b) (by omega); have h3 : (⟨#[80, 70]⟩ : ByteArray).size = 2 := rfl; omega)) ?_
 replace hF := (hF.go0 U1).go0 U3
 exact ⟨congrArg (fun r => Ending.returned (.string r)) (by unfold Gs.y9; rw [if_pos (by omega)]), hF⟩
 refine aC ?_
 refine aB (BZ) (fun w6 U6 => ?_)
 replace hF := (hF.go0 U1).go0 U6
 exact ⟨congrArg (fun r => Ending.returned (.string r)) (by unfold Gs.y9; rw [if_neg (by omega)]), hF⟩
theorem MP {b : Int} {w : World} (hb : 0 ≤ b ∧ b ≤ 255) :
    oX 127 #[.agg #[Z.i 17, Z.u b]] w fun e w' => e = .returned (.string (Gs.y9 b)) ∧ aA no w w' := by
 refine YB.calls ?_
 unfold YB
 have hF : aA no w w := Fr.refl _ _ _
 refine Z.x (#[Z.i 17, Z.u b]) (fun b1 w1 e1 ah _ U1 => ?_)
 refine Z.f 0 ?_
 refine Z.l ah ?_
 refine wQ (cZ _ _ _ _ _) (rfl) ?_
 refine aJ ?_
 refine Z.f 1 ?_
 refine Z.l ah ?_
 refine aB (yt hb) (fun w2 U2 => ?_)
 replace hF := (hF.go0 U1).go0 U2
 exact ⟨rfl, hF⟩
theorem EG {b : Int} {w : World} (hb : 0 ≤ b ∧ b ≤ 255) :
    oX 75 #[Z.u b] w fun e w' => e = .returned (.string (Gs.Dt b)) ∧ aA no w w' := by
 refine F75.calls ?_
 unfold F75
 have hF : aA no w w := Fr.refl _ _ _
 refine ak (bG (l := [(0, 1), (1, 1)]) (z := #[Z.i 0, Z.u 0]) (by kernel_rfl) (by (simp [eP, splice, gu, Value.cells, Gs.cv]; rfl))) ?_
 refine aB (MP hb) (fun w1 U1 => ?_)
 refine az (neS _ _ _ _) (fun h2 => ?_) (fun h2 => ?_)
 refine aJ ?_
 replace hF := hF.go0 U1
 exact ⟨congrArg (fun r => Ending.returned (.string r)) (by unfold Gs.Dt; rw [if_neg (by assumption)]), hF⟩
 refine aC ?_
 refine dS (S := no) (fun w4 U4 => ?_)
 refine bJ (fun w' hw' => (aex _ _)) ?_
 refine bJ (fun w' hw' => (aex _ _)) ?_
 refine bJ (fun w' hw' => (aa4 _ (by omega))) ?_
 refine bJ (fun w' hw' => (WA (s := Gs.OD) (by kernel_rfl) (by omega) (by omega) (by show _ ≤ ((16 : Nat) : Int); omega))) ?_
 refine bJ (fun w' hw' => (VW _ (by omega))) ?_
 refine bJ (fun w' hw' => (VW _ (by omega))) ?_
 refine bJ (fun w' hw' => (aa4 _ (by omega))) ?_
 refine bJ (fun w' hw' => (WA (s := Gs.OD) (by kernel_rfl) (by omega) (by omega) (by show _ ≤ ((16 : Nat) : Int); omega))) ?_
 refine bJ (fun w' hw' => (OC (by have := Gs.PL hb.1; omega))) ?_
 refine aI (fun w8 U8 => ?_)
 replace hF := ((hF.go0 U1).go0 U4).go0 U8
 exact ⟨congrArg (fun r => Ending.returned (.string r)) (by unfold Gs.Dt; (rw [if_pos (Classical.not_not.1 (by assumption))]; rfl)), hF⟩
end Go.Proofs.YtjdoakbadehicaaGreatDoor
end
