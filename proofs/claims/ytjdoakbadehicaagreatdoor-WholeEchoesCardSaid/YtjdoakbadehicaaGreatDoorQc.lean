/- Part of a proof. No condition but those that its theorems state. -/
import Derived.Test.YtjdoakbadehicaaGreatDoorProg
import Derived.Test.YtjdoakbadehicaaGreatDoorQa
import Derived.KernelRfl
import Derived.Lib.RuneBytes
import Derived.Lib.OthersKept
import Derived.Lib.MapLaws
import Derived.Test.YtjdoakbadehicaaGreatDoorQb
import Derived.Lib.ItoaMem
import Derived.Lib.ItoaLen
import Derived.Laws.IdiomStrings
import Derived.Lib.SliceRun
import Derived.Shelf.Strings.Builder1
import Derived.Shelf.Strings.BuilderF
import Derived.Shelf.Strings.BuilderK
import Derived.Shelf.Strings.BuilderRune
import Derived.Shelf.Utf8.AppendRunePlain
import Derived.Shelf.Strconv.Itoa0
import Derived.Shelf.Strconv.Itoa1
import Derived.Shelf.LaysM
import Derived.Shelf.Strconv.Itoa2
import Derived.Shelf.Strconv.Itoa3
import Derived.Shelf.Strings.BuilderCap
set_option linter.unusedVariables false
set_option linter.unusedSimpArgs false
section
namespace Go.Proofs.YtjdoakbadehicaaGreatDoor
open Go Go.Sh
section
variable (R : Ending → World → Prop) (w : World)
set_option maxRecDepth 100000
def F6 (a0 a1 : Value) : Prop :=
 oB 32 a0 w R fun t2 w =>
 oC 8 #[] w R fun t17 w =>
 oU t17 w R fun t18 w =>
 gd t18 false (fun K => oC 25 #[] w R K) w fun t20 w =>
 gd t18 false (fun K => oU t20 w R K) w fun t21 w =>
 pick t18 (.bool true) t21 w fun t22 w =>
 cond t22 (R (.returned (.bool false)) w)
 (oL 32 t2 w R fun t24 w =>
 oC 22 #[t24, a1] w R fun t26 w =>
 oE t26 0 w R fun t27 w =>
 oE t26 1 w R fun t28 w =>
 oE t26 2 w R fun t29 w =>
 oU t29 w R fun t31 w =>
 cond t31 (R (.returned (.bool true)) w)
 (oC 13 #[t27] w R fun t33 w =>
 oC 32 #[t33, (Z.u 96)] w R fun t35 w =>
 oL 32 t2 w R fun t37 w =>
 oL 32 t2 w R fun t38 w =>
 oC 12 #[t37, t38] w R fun t39 w =>
 oE t39 0 w R fun t40 w =>
 oE t39 1 w R fun t41 w =>
 bi ((Instr.buildSlice 24 2 #[(0, (Z.u 245)), (1, (Z.u 192))]).run Tryz.prog w) R fun t43 w =>
 bi ((Instr.sliceAt 24 t35 (some (Z.i 3)) none none).run Tryz.prog w) R fun t45 w =>
 bi ((Builtin.append_ #[24, 24] 24 #[t43, t45]).run Tryz.prog w) R fun t46 w =>
 oC 27 #[t40, t46] w R fun t47 w =>
 oA 66 w R fun t12 w =>
 oS 66 t12 t47 w R fun _ w =>
 oG 66 t12 3 25 w R fun t49 w =>
 oQ true .neq 25 t49 (Z.i 0) w R fun t50 w =>
 cond t50 (R (.returned (.bool false)) w)
 (join (upd (upd (upd (upd (upd (upd (upd (upd (upd (upd (upd (ini [a0, a1]) 2 t2) 4 (.bool false)) 22 t22) 5 t27) 7 t29) 31 t31) 8 t33) 9 t35) 10 t40) 12 t12) 50 t50) (fun j1 =>
 oC 30 #[t33] w R fun t52 w =>
 loop (upd (upd (upd (upd (upd (upd (upd (upd (upd (upd (upd (upd (upd (ini [a0, a1]) 2 t2) 4 (.bool false)) 22 t22) 5 t27) 7 t29) 31 t31) 8 t33) 9 t35) 10 t40) 12 t12) 50 t50) 52 t52) 53 (Z.i 0)) w fun e2 g2 w j2 =>
 oP .lss 3 (g2 53) t52 w R fun t54 w =>
 cond t54 (oC 31 #[t33, (g2 53)] w R fun t58 w =>
 oC 13 #[t40] w R fun t60 w =>
 oC 31 #[t60, (g2 53)] w R fun t62 w =>
 oA 37 w R fun t14 w =>
 oA 37 w R fun t15 w =>
 oS 37 t14 t58 w R fun _ w =>
 oS 37 t15 t62 w R fun _ w =>
 oG 37 t14 2 4 w R fun t64 w =>
 oG 37 t15 2 4 w R fun t66 w =>
 oQ false .neq 4 t64 t66 w R fun t67 w =>
 gd t67 false (fun K => oF 37 t14 1 w R K) w fun t69 w =>
 gd t67 false (fun K => oL 4 t69 w R K) w fun t70 w =>
 gd t67 false (fun K => oF 37 t15 1 w R K) w fun t71 w =>
 gd t67 false (fun K => oL 4 t71 w R K) w fun t72 w =>
 gd t67 false (fun K => oQ false .neq 4 t70 t72 w R K) w fun t73 w =>
 pick t67 (.bool true) t73 w fun t74 w =>
 gd t74 false (fun K => oF 37 t14 2 w R K) w fun t76 w =>
 gd t74 false (fun K => oL 4 t76 w R K) w fun t77 w =>
 gd t74 false (fun K => K t77 w) w fun t78 w =>
 gd t78 true (fun K => oF 37 t14 0 w R K) w fun t79 w =>
 gd t78 true (fun K => oL 5 t79 w R K) w fun t80 w =>
 gd t78 true (fun K => oP .and 5 t80 (Z.u 63) w R K) w fun t81 w =>
 gd t78 true (fun K => oF 37 t15 0 w R K) w fun t82 w =>
 gd t78 true (fun K => oL 5 t82 w R K) w fun t83 w =>
 gd t78 true (fun K => oQ false .neq 5 t81 t83 w R K) w fun t84 w =>
 gd t74 false (fun K => pick t78 t84 (.bool false) w K) w fun t85 w =>
 pick t74 (.bool true) t85 w fun t86 w =>
 gd t86 false (fun K => oF 37 t14 2 w R K) w fun t88 w =>
 gd t86 false (fun K => oL 4 t88 w R K) w fun t89 w =>
 gd t86 false (fun K => oU t89 w R K) w fun t90 w =>
 gd t86 false (fun K => K t90 w) w fun t91 w =>
 gd t91 true (fun K => oF 37 t14 0 w R K) w fun t92 w =>
 gd t91 true (fun K => oL 5 t92 w R K) w fun t93 w =>
 gd t91 true (fun K => oF 37 t15 0 w R K) w fun t94 w =>
 gd t91 true (fun K => oL 5 t94 w R K) w fun t95 w =>
 gd t91 true (fun K => oQ false .neq 5 t93 t95 w R K) w fun t96 w =>
 gd t86 false (fun K => pick t91 t96 (.bool false) w K) w fun t97 w =>
 gd t86 false (fun K => K t97 w) w fun t98 w =>
 gd t98 true (fun K => oF 37 t14 0 w R K) w fun t99 w =>
 gd t98 true (fun K => oL 5 t99 w R K) w fun t100 w =>
 gd t98 true (fun K => oP .geq 5 t100 (Z.u 64) w R K) w fun t101 w =>
 gd t86 false (fun K => pick t98 t101 (.bool false) w K) w fun t102 w =>
 pick t86 (.bool true) t102 w fun t103 w =>
 cond t103 (R (.returned (.bool false)) w)
 (oP .add 3 (g2 53) (Z.i 1) w R fun t104 w =>
 j2 (upd (upd (upd (upd (upd (upd (mix [54,13,14,15,103,4,53] g2 e2) 54 t54) 13 (g2 53)) 14 t14) 15 t15) 103 t103) 53 t104) w))
 (j1 (upd (mix [54,13,14,15,103,4,53] g2 e2) 54 t54) w)) fun e1 g1 w =>
 oC 13 #[t40] w R fun t106 w =>
 oC 32 #[t106, (Z.u 96)] w R fun t107 w =>
 drawn w fun T w =>
 bJ T w (fun w K => bi ((Instr.sliceAt 24 t107 (some (Z.i 3)) none none).run Tryz.prog w) aZ K) fun t109 =>
 bJ T w (fun w K => bi ((convert 24 9 t109).run Tryz.prog w) aZ K) fun t110 =>
 bJ T w (fun w K => bi ((Instr.sliceAt 24 t35 (some (Z.i 3)) none none).run Tryz.prog w) aZ K) fun t112 =>
 bJ T w (fun w K => bi ((convert 24 9 t112).run Tryz.prog w) aZ K) fun t113 =>
 bJ T w (fun w K => oQ false .eql 9 t110 t113 w aZ K) fun t114 =>
 ext w fun w =>
 R (.returned t114) w)))
theorem F6.calls {R w a0 a1} : F6 R w a0 a1 → oX 6 #[a0, a1] w R := Z.k [0,1,2,4,5,7,8,9,10,12,13,14,15,16,22,31,50,52,53,54,103]
def Nk (a0 a1 : Value) : Prop :=
 oB 32 a0 w R fun t2 w =>
 oL 32 t2 w R fun t13 w =>
 oL 32 t2 w R fun t14 w =>
 oC 12 #[t13, t14] w R fun t15 w =>
 oE t15 0 w R fun t16 w =>
 oE t15 1 w R fun t17 w =>
 oQ true .neq 25 t17 (Z.i 0) w R fun t19 w =>
 gd t19 false (fun K => K t16 w) w fun t21 w =>
 gd t19 false (fun K => oC 13 #[t21] w R K) w fun t22 w =>
 gd t19 false (fun K => oC 30 #[t22] w R K) w fun t23 w =>
 gd t19 false (fun K => oP .gtr 3 t23 (Z.i 60) w R K) w fun t24 w =>
 pick t19 (.bool true) t24 w fun t25 w =>
 gd t25 false (fun K => K a1 w) w fun t27 w =>
 gd t25 false (fun K => oN 57 t27 w R K) w fun t28 w =>
 gd t25 false (fun K => oP .gtr 3 t28 (Z.i 20) w R K) w fun t29 w =>
 pick t25 (.bool true) t29 w fun t30 w =>
 cond t30 (R (.returned (.tuple #[(.pointer none), (.pointer none), (.bool false)])) w)
 (oC 15 #[t16] w R fun t32 w =>
 oC 16 #[t32] w R fun t34 w =>
 oC 17 #[t34] w R fun t35 w =>
 join (upd (upd (upd (upd (upd (upd (upd (upd (ini [a0, a1]) 2 t2) 4 (.pointer none)) 5 (.pointer none)) 6 (.bool false)) 7 t16) 8 t17) 30 t30) 9 t32) (fun j1 =>
 oN 57 a1 w R fun t37 w =>
 loop (upd (upd (upd (upd (upd (upd (upd (upd (upd (upd (upd (ini [a0, a1]) 2 t2) 4 (.pointer none)) 5 (.pointer none)) 6 (.bool false)) 7 t16) 8 t17) 30 t30) 9 t32) 36 a1) 37 t37) 38 (Z.i 0)) w fun e2 g2 w j2 =>
 oP .lss 3 (g2 38) t37 w R fun t39 w =>
 cond t39 (join (upd (mix [39,11,45,4,5,6,49,38] g2 e2) 39 t39) (fun j3 =>
 oI 57 a1 (g2 38) w R fun t40 w =>
 oL 118 t40 w R fun t41 w =>
 oA 118 w R fun t11 w =>
 oS 118 t11 t41 w R fun _ w =>
 oG 118 t11 0 24 w R fun t43 w =>
 oN 24 t43 w R fun t44 w =>
 oP .gtr 3 t44 (Z.i 150) w R fun t45 w =>
 cond t45 (R (.returned (.tuple #[(.pointer none), (.pointer none), (.bool false)])) w)
 (oG 118 t11 0 24 w R fun t47 w =>
 oN 24 t47 w R fun t48 w =>
 oP .gtr 3 t48 (Z.i 0) w R fun t49 w =>
 cond t49 (oG 118 t11 0 24 w R fun t53 w =>
 oC 27 #[t16, t53] w R fun t54 w =>
 oC 26 #[t32, t54] w R fun t55 w =>
 j3 (upd (upd (upd (upd (mix [39,11,45,4,5,6,49,38] g2 e2) 39 t39) 11 t11) 45 t45) 49 t49) w)
 (oG 118 t11 1 45 w R fun t58 w =>
 oC 18 #[t32, t58] w R fun t59 w =>
 j3 (upd (upd (upd (upd (mix [39,11,45,4,5,6,49,38] g2 e2) 39 t39) 11 t11) 45 t45) 49 t49) w))) fun e3 g3 w =>
 oP .add 3 (g2 38) (Z.i 1) w R fun t60 w =>
 j2 (upd (mix [11,45,4,5,6,49] g3 e3) 38 t60) w)
 (j1 (upd (mix [39,11,45,4,5,6,49,38] g2 e2) 39 t39) w)) fun e1 g1 w =>
 R (.returned (.tuple #[t16, t32, (.bool true)])) w)
theorem Nk.calls {R w a0 a1} : Nk R w a0 a1 → oX 22 #[a0, a1] w R := Z.k [0,1,2,4,5,6,7,8,9,11,30,36,37,38,39,45,49]
def YW : Prop :=
 oD 32 #[(0, (Z.i 1)), (1, (Z.i 6))] w R fun t5 w =>
 oD 32 #[(0, (Z.i 1)), (1, (Z.i 6))] w R fun t6 w =>
 oC 12 #[t5, t6] w R fun t7 w =>
 oE t7 0 w R fun t8 w =>
 oE t7 1 w R fun t9 w =>
 oQ true .eql 28 t8 (.pointer none) w R fun t11 w =>
 gd t11 false (fun K => K t8 w) w fun t13 w =>
 gd t11 false (fun K => oC 13 #[t13] w R K) w fun t14 w =>
 gd t11 false (fun K => oQ true .eql 33 t14 (.pointer none) w R K) w fun t15 w =>
 pick t11 (.bool true) t15 w fun t16 w =>
 cond t16 (R (.returned (.bool false)) w)
 (bi ((Instr.buildSlice 24 6 #[(0, (Z.u 245)), (1, (Z.u 195)), (2, (Z.u 17)), (3, (Z.u 64)), (4, (Z.u 67)), (5, (Z.u 193))]).run Tryz.prog w) R fun t18 w =>
 oC 27 #[t8, t18] w R fun t19 w =>
 oA 66 w R fun t3 w =>
 oS 66 t3 t19 w R fun _ w =>
 oQ true .eql 25 t9 (Z.i 0) w R fun t21 w =>
 gd t21 true (fun K => oF 66 t3 1 w R K) w fun t23 w =>
 gd t21 true (fun K => oL 4 t23 w R K) w fun t24 w =>
 pick t21 t24 (.bool false) w fun t25 w =>
 gd t25 true (fun K => K t8 w) w fun t27 w =>
 gd t25 true (fun K => oC 13 #[t27] w R K) w fun t28 w =>
 gd t25 true (fun K => oC 31 #[t28, (Z.i 3)] w R K) w fun t29 w =>
 gd t25 true (fun K => bi ((Instr.field 37 t29 0).run Tryz.prog w) R K) w fun t30 w =>
 gd t25 true (fun K => oQ true .eql 5 t30 (Z.u 193) w R K) w fun t31 w =>
 pick t25 t31 (.bool false) w fun t32 w =>
 gd t32 true (fun K => K t8 w) w fun t34 w =>
 gd t32 true (fun K => oC 13 #[t34] w R K) w fun t35 w =>
 gd t32 true (fun K => oC 61 #[t35] w R K) w fun t36 w =>
 gd t32 true (fun K => oU t36 w R K) w fun t37 w =>
 pick t32 t37 (.bool false) w fun t38 w =>
 R (.returned t38) w)
theorem YW.calls {R w} : YW R w → oX 25 #[] w R := Z.k (args := []) [0,1,2,3,16]
def F26 (a0 a1 : Value) : Prop :=
 oB 66 a1 w R fun t3 w =>
 oG 66 t3 1 4 w R fun t5 w =>
 cond t5 (df a0 w fun t7 w =>
 oF 95 t7 1 w R fun t8 w =>
 oC 63 #[t8] w R fun t9 w =>
 df a0 w fun t12 w =>
 oF 95 t12 2 w R fun t13 w =>
 oS 4 t13 (.bool false) w R fun _ w =>
 df a0 w fun t14 w =>
 oF 95 t14 3 w R fun t15 w =>
 oS 5 t15 (Z.u 96) w R fun _ w =>
 R (.returned (.tuple #[])) w)
 (R (.returned (.tuple #[])) w)
theorem F26.calls {R w a0 a1} : F26 R w a0 a1 → oX 26 #[a0, a1] w R := Z.k [0,1,3,5]
def F27 (a0 a1 : Value) : Prop :=
 oA 66 w R fun t4 w =>
 oC 64 #[a1] w R fun t9 w =>
 oE t9 0 w R fun t10 w =>
 oE t9 1 w R fun t11 w =>
 oA 124 w R fun t5 w =>
 oS 124 t5 t10 w R fun _ w =>
 oQ true .neq 25 t11 (Z.i 0) w R fun t13 w =>
 cond t13 (oD 66 #[(3, t11)] w R fun t15 w =>
 oS 66 t4 t15 w R fun _ w =>
 jo ((Instr.loadAt 66 t4).run Tryz.prog w) w fun r0 =>
 R (.returned r0) w)
 (oL 124 t5 w R fun t17 w =>
 oC 65 #[a0, t17] w R fun t18 w =>
 oS 66 t4 t18 w R fun _ w =>
 jo ((Instr.loadAt 66 t4).run Tryz.prog w) w fun r0 =>
 R (.returned r0) w)
theorem F27.calls {R w a0 a1} : F27 R w a0 a1 → oX 27 #[a0, a1] w R := Z.k [0,1,4,5,6,13]
def F32 (a0 a1 : Value) : Prop :=
 bi ((Instr.buildSlice 24 1 #[(0, a1)]).run Tryz.prog w) R fun t9 w =>
 oC 24 #[a0] w R fun t12 w =>
 oC 67 #[a0, t12] w R fun t13 w =>
 bi ((Builtin.append_ #[24, 24] 24 #[t9, t13]).run Tryz.prog w) R fun t14 w =>
 join (upd (upd (ini [a0, a1]) 4 (.slice none 0 0)) 5 t14) (fun j1 =>
 oC 30 #[a0] w R fun t16 w =>
 loop (upd (upd (upd (upd (ini [a0, a1]) 4 (.slice none 0 0)) 5 t14) 16 t16) 17 (Z.i 0)) w fun e2 g2 w j2 =>
 oP .lss 3 (g2 17) t16 w R fun t18 w =>
 cond t18 (join (upd (mix [18,6,7,24,5,17] g2 e2) 18 t18) (fun j3 =>
 oC 31 #[a0, (g2 17)] w R fun t22 w =>
 oA 37 w R fun t7 w =>
 oS 37 t7 t22 w R fun _ w =>
 oG 37 t7 2 4 w R fun t24 w =>
 cond t24 (oG 37 t7 0 5 w R fun t27 w =>
 oC 68 #[t27] w R fun t28 w =>
 bi ((Instr.buildSlice 24 2 #[(0, (Z.u 29)), (1, t28)]).run Tryz.prog w) R fun t29 w =>
 bi ((Builtin.append_ #[24, 24] 24 #[(g2 5), t29]).run Tryz.prog w) R fun t30 w =>
 j3 (upd (upd (upd (upd (upd (mix [18,6,7,24,5,17] g2 e2) 18 t18) 6 (g2 17)) 7 t7) 24 t24) 5 t30) w)
 (oL 37 t7 w R fun t32 w =>
 oC 69 #[t32] w R fun t33 w =>
 bi ((Builtin.append_ #[24, 24] 24 #[(g2 5), t33]).run Tryz.prog w) R fun t34 w =>
 j3 (upd (upd (upd (upd (upd (mix [18,6,7,24,5,17] g2 e2) 18 t18) 6 (g2 17)) 7 t7) 24 t24) 5 t34) w)) fun e3 g3 w =>
 oP .add 3 (g2 17) (Z.i 1) w R fun t35 w =>
 j2 (upd (mix [6,7,24,5] g3 e3) 17 t35) w)
 (j1 (upd (mix [18,6,7,24,5,17] g2 e2) 18 t18) w)) fun e1 g1 w =>
 R (.returned (g1 5)) w
theorem F32.calls {R w a0 a1} : F32 R w a0 a1 → oX 32 #[a0, a1] w R := Z.k [0,1,4,5,6,7,16,17,18,24]
def F47 (a0 : Value) : Prop :=
 df a0 w fun t4 w =>
 oG 93 t4 0 3 w R fun t6 w =>
 oQ true .neq 3 t6 (Z.i 3) w R fun t7 w =>
 cond t7 (R (.returned (.bool false)) w)
 (oC 17 #[a0] w R fun t9 w =>
 R (.returned (.bool true)) w)
theorem F47.calls {R w a0} : F47 R w a0 → oX 47 #[a0] w R := Z.k [0,2,7]
def F63 (a0 : Value) : Prop :=
 df a0 w fun t4 w =>
 oG 93 t4 0 3 w R fun t6 w =>
 oQ true .neq 3 t6 (Z.i 3) w R fun t7 w =>
 gd t7 true (fun K => K a0 w) w fun t9 w =>
 gd t7 true (fun K => df t9 w K) w fun t10 w =>
 gd t7 true (fun K => oF 93 t10 0 w R K) w fun t11 w =>
 gd t7 true (fun K => oL 3 t11 w R K) w fun t12 w =>
 gd t7 true (fun K => oQ true .neq 3 t12 (Z.i 2) w R K) w fun t13 w =>
 pick t7 t13 (.bool false) w fun t14 w =>
 cond t14 (R (.returned (.bool false)) w)
 (oC 17 #[a0] w R fun t16 w =>
 R (.returned (.bool true)) w)
theorem F63.calls {R w a0} : F63 R w a0 → oX 63 #[a0] w R := Z.k [0,2,14]
def YL (a0 : Value) : Prop :=
 oA 124 w R fun t2 w =>
 oN 24 a0 w R fun t8 w =>
 oQ true .eql 3 t8 (Z.i 0) w R fun t9 w =>
 cond t9 (oD 124 #[] w R fun t10 w =>
 oS 124 t2 t10 w R fun _ w =>
 jo ((Instr.loadAt 124 t2).run Tryz.prog w) w fun r0 =>
 R (.returned (.tuple #[r0, (Z.i 30)])) w)
 (oI 24 a0 (Z.i 0) w R fun t13 w =>
 oL 5 t13 w R fun t14 w =>
 oC 102 #[t14] w R fun t15 w =>
 oE t15 0 w R fun t16 w =>
 oE t15 1 w R fun t17 w =>
 oA 158 w R fun t4 w =>
 oS 158 t4 t16 w R fun _ w =>
 oG 158 t4 0 5 w R fun t19 w =>
 oD 124 #[(0, t19)] w R fun t20 w =>
 oA 124 w R fun t6 w =>
 oS 124 t6 t20 w R fun _ w =>
 join (upd (upd (upd (upd (upd (upd (ini [a0]) 2 t2) 3 (Z.i 0)) 9 t9) 4 t4) 5 t17) 6 t6) (fun j1 =>
 oU t17 w R fun t23 w =>
 cond t23 (oD 124 #[] w R fun t24 w =>
 oS 124 t2 t24 w R fun _ w =>
 jo ((Instr.loadAt 124 t2).run Tryz.prog w) w fun r0 =>
 R (.returned (.tuple #[r0, (Z.i 30)])) w)
 (oG 158 t4 0 5 w R fun t27 w =>
 oC 103 #[t27] w R fun t28 w =>
 gd t28 true (fun K => K a0 w) w fun t30 w =>
 gd t28 true (fun K => oN 24 t30 w R K) w fun t31 w =>
 gd t28 true (fun K => oP .lss 3 t31 (Z.i 2) w R K) w fun t32 w =>
 pick t28 t32 (.bool false) w fun t33 w =>
 cond t33 (oD 124 #[] w R fun t34 w =>
 oS 124 t2 t34 w R fun _ w =>
 jo ((Instr.loadAt 124 t2).run Tryz.prog w) w fun r0 =>
 R (.returned (.tuple #[r0, (Z.i 20)])) w)
 (oG 158 t4 0 5 w R fun t37 w =>
 oC 103 #[t37] w R fun t38 w =>
 cond t38 (oI 24 a0 (Z.i 1) w R fun t40 w =>
 oL 5 t40 w R fun t41 w =>
 oF 124 t6 1 w R fun t42 w =>
 oS 5 t42 t41 w R fun _ w =>
 bi ((Instr.sliceAt 24 a0 (some (Z.i 2)) none none).run Tryz.prog w) R fun t45 w =>
 oC 104 #[t45] w R fun t46 w =>
 oE t46 0 w R fun t47 w =>
 oE t46 1 w R fun t48 w =>
 oE t46 2 w R fun t49 w =>
 oF 124 t6 2 w R fun t50 w =>
 oS 121 t50 t47 w R fun _ w =>
 oF 124 t6 3 w R fun t51 w =>
 oS 25 t51 t49 w R fun _ w =>
 j1 (upd (upd (upd (upd (upd (upd (upd (upd (upd (ini [a0]) 2 t2) 3 (Z.i 0)) 9 t9) 4 t4) 5 t17) 6 t6) 21 t23) 25 t33) 35 t38) w)
 (oG 158 t4 0 5 w R fun t54 w =>
 oQ true .eql 5 t54 (Z.u 243) w R fun t55 w =>
 cond t55 (bi ((Instr.sliceAt 24 a0 (some (Z.i 1)) none none).run Tryz.prog w) R fun t58 w =>
 oC 105 #[t58] w R fun t59 w =>
 oE t59 0 w R fun t60 w =>
 oE t59 1 w R fun t61 w =>
 oF 124 t6 4 w R fun t62 w =>
 oS 122 t62 t60 w R fun _ w =>
 oF 124 t6 3 w R fun t63 w =>
 oS 25 t63 t61 w R fun _ w =>
 j1 (upd (upd (upd (upd (upd (upd (upd (upd (upd (upd (ini [a0]) 2 t2) 3 (Z.i 0)) 9 t9) 4 t4) 5 t17) 6 t6) 21 t23) 25 t33) 35 t38) 52 t55) w)
 (j1 (upd (upd (upd (upd (upd (upd (upd (upd (upd (upd (ini [a0]) 2 t2) 3 (Z.i 0)) 9 t9) 4 t4) 5 t17) 6 t6) 21 t23) 25 t33) 35 t38) 52 t55) w))))) fun e1 g1 w =>
 oL 124 t6 w R fun t64 w =>
 oS 124 t2 t64 w R fun _ w =>
 jo ((Instr.loadAt 124 t2).run Tryz.prog w) w fun r0 =>
 R (.returned (.tuple #[r0, (Z.i 0)])) w)
theorem YL.calls {R w a0} : YL R w a0 → oX 64 #[a0] w R := Z.k [0,2,3,4,5,6,9,21,25,35,52]
def YX (a0 a1 : Value) : Prop :=
 oB 124 a1 w R fun t3 w =>
 oA 66 w R fun t4 w =>
 oG 124 t3 0 5 w R fun t6 w =>
 oQ true .eql 5 t6 (Z.u 241) w R fun t8 w =>
 cond t8 (join (upd (upd (upd (upd (ini [a0, a1]) 3 t3) 4 t4) 6 t6) 7 t8) (fun j1 =>
 oG 124 t3 1 5 w R fun t10 w =>
 oC 106 #[t10] w R fun t11 w =>
 cond t11 (df a0 w fun t13 w =>
 oG 89 t13 2 33 w R fun t15 w =>
 oC 107 #[t15] w R fun t16 w =>
 j1 (upd (upd (upd (upd (upd (ini [a0, a1]) 3 t3) 4 t4) 6 t6) 7 t8) 11 t11) w)
 (j1 (upd (upd (upd (upd (upd (ini [a0, a1]) 3 t3) 4 t4) 6 t6) 7 t8) 11 t11) w)) fun e1 g1 w =>
 drawn w fun T w =>
 bJ T w (fun w K => oL 124 t3 w aZ K) fun t18 =>
 bJ T w (fun w K => df a0 w K) fun t20 =>
 qG T w 89 t20 2 33 fun t22 =>
 bJ T w (fun w K => oC 24 #[t22] w aZ K) fun t23 =>
 ext w fun w =>
 oC 108 #[a0, t18, t23] w R fun t24 w =>
 ext w fun w =>
 oS 66 t4 t24 w R fun _ w =>
 ext w fun w =>
 jo ((Instr.loadAt 66 t4).run Tryz.prog w) w fun r0 =>
 R (.returned r0) w)
 (oQ true .eql 5 t6 (Z.u 245) w R fun t26 w =>
 cond t26 (oL 124 t3 w R fun t28 w =>
 oC 109 #[a0, t28, (Z.i 0)] w R fun t29 w =>
 oS 66 t4 t29 w R fun _ w =>
 jo ((Instr.loadAt 66 t4).run Tryz.prog w) w fun r0 =>
 R (.returned r0) w)
 (oQ true .eql 5 t6 (Z.u 126) w R fun t31 w =>
 cond t31 (oL 124 t3 w R fun t33 w =>
 oC 109 #[a0, t33, (Z.i 1)] w R fun t34 w =>
 oS 66 t4 t34 w R fun _ w =>
 jo ((Instr.loadAt 66 t4).run Tryz.prog w) w fun r0 =>
 R (.returned r0) w)
 (oQ true .eql 5 t6 (Z.u 111) w R fun t36 w =>
 cond t36 (df a0 w fun t38 w =>
 oG 89 t38 2 33 w R fun t40 w =>
 oC 90 #[t40] w R fun t41 w =>
 oD 66 #[(1, (.bool true))] w R fun t42 w =>
 oS 66 t4 t42 w R fun _ w =>
 jo ((Instr.loadAt 66 t4).run Tryz.prog w) w fun r0 =>
 R (.returned r0) w)
 (join (upd (upd (upd (upd (upd (upd (upd (ini [a0, a1]) 3 t3) 4 t4) 6 t6) 7 t8) 25 t26) 30 t31) 35 t36) (fun j2 =>
 oQ true .eql 5 t6 (Z.u 242) w R fun t44 w =>
 cond t44 (j2 (upd (upd (upd (upd (upd (upd (upd (upd (ini [a0, a1]) 3 t3) 4 t4) 6 t6) 7 t8) 25 t26) 30 t31) 35 t36) 43 t44) w)
 (oQ true .eql 5 t6 (Z.u 246) w R fun t45 w =>
 cond t45 (j2 (upd (upd (upd (upd (upd (upd (upd (upd (upd (ini [a0, a1]) 3 t3) 4 t4) 6 t6) 7 t8) 25 t26) 30 t31) 35 t36) 43 t44) 43 t45) w)
 (oQ true .eql 5 t6 (Z.u 110) w R fun t46 w =>
 j2 (upd (upd (upd (upd (upd (upd (upd (upd (upd (upd (ini [a0, a1]) 3 t3) 4 t4) 6 t6) 7 t8) 25 t26) 30 t31) 35 t36) 43 t44) 43 t45) 43 t46) w))) fun e2 g2 w =>
 cond (g2 43) (oG 124 t3 0 5 w R fun t48 w =>
 oD 66 #[(0, t48)] w R fun t49 w =>
 oS 66 t4 t49 w R fun _ w =>
 jo ((Instr.loadAt 66 t4).run Tryz.prog w) w fun r0 =>
 R (.returned r0) w)
 (oQ true .eql 5 t6 (Z.u 243) w R fun t51 w =>
 cond t51 (oL 124 t3 w R fun t53 w =>
 oC 110 #[a0, t53] w R fun t54 w =>
 oS 66 t4 t54 w R fun _ w =>
 jo ((Instr.loadAt 66 t4).run Tryz.prog w) w fun r0 =>
 R (.returned r0) w)
 (oD 66 #[(3, (Z.i 30))] w R fun t55 w =>
 oS 66 t4 t55 w R fun _ w =>
 jo ((Instr.loadAt 66 t4).run Tryz.prog w) w fun r0 =>
 R (.returned r0) w))))))
theorem YX.calls {R w a0 a1} : YX R w a0 a1 → oX 65 #[a0, a1] w R := Z.k [0,1,3,4,6,7,11,25,30,35,43,50]
def F72 (a0 : Value) : Prop :=
 oB 33 a0 w R fun t1 w =>
 drawn w fun T w =>
 bJ T w (fun w K => oL 33 t1 w aZ K) fun t5 =>
 bJ T w (fun w K => oL 33 t1 w aZ K) fun t6 =>
 bJ T w (fun w K => oC 24 #[t6] w aZ K) fun t7 =>
 ext w fun w =>
 oC 120 #[t5, t7] w R fun t8 w =>
 ext w fun w =>
 bi ((Instr.makeFunc (.func 122) #[] #[t1]).run Tryz.prog w) R fun t10 w =>
 oC 121 #[t8, t10] w R fun t11 w =>
 oP .lss 3 t11 (Z.i 0) w R fun t13 w =>
 cond t13 (R (.returned (Z.i 43)) w)
 (join (upd (upd (upd (upd (upd (ini [a0]) 1 t1) 2 (Z.i 0)) 3 t8) 4 t11) 13 t13) (fun j1 =>
 loop (upd (upd (upd (upd (upd (ini [a0]) 1 t1) 2 (Z.i 0)) 3 t8) 4 t11) 13 t13) w fun e2 g2 w j2 =>
 oP .gtr 3 (g2 4) (Z.i 0) w R fun t15 w =>
 cond t15 (drawn w fun T w =>
 bJ T w (fun w K => oL 33 t1 w aZ K) fun t18 =>
 bJ T w (fun w K => oI 176 t8 (g2 4) w aZ K) fun t21 =>
 bJ T w (fun w K => oL 3 t21 w aZ K) fun t22 =>
 bJ T w (fun w K => oL 33 t1 w aZ K) fun t23 =>
 bJ T w (fun w K => oP .sub 3 (g2 4) (Z.i 1) w aZ K) fun t26 =>
 bJ T w (fun w K => oI 176 t8 t26 w aZ K) fun t27 =>
 bJ T w (fun w K => oL 3 t27 w aZ K) fun t28 =>
 bJ T w (fun w K => oC 31 #[t23, t28] w aZ K) fun t29 =>
 ext w fun w =>
 oC 14 #[t18, t22, t29] w R fun t30 w =>
 ext w fun w =>
 oP .sub 3 (g2 4) (Z.i 1) w R fun t17 w =>
 j2 (upd (upd (mix [15,4] g2 e2) 15 t15) 4 t17) w)
 (j1 (upd (mix [15,4] g2 e2) 15 t15) w)) fun e1 g1 w =>
 R (.returned (Z.i 0)) w)
theorem F72.calls {R w a0} : F72 R w a0 → oX 72 #[a0] w R := Z.k [0,1,2,3,4,13,15]
def F84 (a0 : Value) : Prop :=
 oC 24 #[a0] w R fun t6 w =>
 oC 130 #[a0, t6, (Z.i 1)] w R fun t7 w =>
 oC 124 #[a0, t7] w R fun t8 w =>
 R (.returned t8) w
theorem F84.calls {R w a0} : F84 R w a0 → oX 84 #[a0] w R := Z.k [0,2]
def F85 (a0 : Value) : Prop :=
 oC 24 #[a0] w R fun t7 w =>
 oC 116 #[a0, t7] w R fun t11 w =>
 oE t11 0 w R fun t12 w =>
 oE t11 1 w R fun t13 w =>
 oA 173 w R fun t4 w =>
 oS 173 t4 t12 w R fun _ w =>
 gd t13 true (fun K => K a0 w) w fun t16 w =>
 gd t13 true (fun K => oF 173 t4 0 w R K) w fun t17 w =>
 gd t13 true (fun K => oL 3 t17 w R K) w fun t18 w =>
 gd t13 true (fun K => oC 131 #[t16, t18] w R K) w fun t19 w =>
 pick t13 t19 (.bool false) w fun t20 w =>
 gd t20 true (fun K => K t7 w) w fun t22 w =>
 gd t20 true (fun K => oF 173 t4 0 w R K) w fun t23 w =>
 gd t20 true (fun K => oL 3 t23 w R K) w fun t24 w =>
 gd t20 true (fun K => oQ false .neq 3 t22 t24 w R K) w fun t25 w =>
 pick t20 t25 (.bool false) w fun t26 w =>
 gd t26 true (fun K => K t7 w) w fun t28 w =>
 gd t26 true (fun K => K a0 w) w fun t29 w =>
 gd t26 true (fun K => oF 173 t4 0 w R K) w fun t30 w =>
 gd t26 true (fun K => oL 3 t30 w R K) w fun t31 w =>
 gd t26 true (fun K => oC 125 #[t29, t31, (Z.i 1)] w R K) w fun t32 w =>
 gd t26 true (fun K => oQ false .neq 3 t28 t32 w R K) w fun t33 w =>
 pick t26 t33 (.bool false) w fun t34 w =>
 cond t34 (oG 173 t4 0 3 w R fun t38 w =>
 oC 125 #[a0, t38, (Z.i 1)] w R fun t39 w =>
 oC 124 #[a0, t39] w R fun t40 w =>
 R (.returned t40) w)
 (oC 125 #[a0, t7, (Z.i (-2))] w R fun t45 w =>
 oC 130 #[a0, t45, (Z.i (-1))] w R fun t46 w =>
 oC 124 #[a0, t46] w R fun t47 w =>
 R (.returned t47) w)
theorem F85.calls {R w a0} : F85 R w a0 → oX 85 #[a0] w R := Z.k [0,2,3,4,5,34]
def F86 (a0 : Value) : Prop :=
 oC 112 #[a0] w R fun t11 w =>
 oC 24 #[a0] w R fun t13 w =>
 oC 132 #[t11, t13] w R fun t14 w =>
 oE t14 0 w R fun t15 w =>
 oE t14 1 w R fun t16 w =>
 oE t14 2 w R fun t17 w =>
 oP .add 3 t15 (Z.i 1) w R fun t20 w =>
 oC 112 #[a0] w R fun t22 w =>
 bi ((Instr.field 32 t22 1).run Tryz.prog w) R fun t23 w =>
 oP .mul 3 t20 t23 w R fun t24 w =>
 oC 125 #[a0, (Z.i 0), t24] w R fun t25 w =>
 join (upd (upd (upd (ini [a0]) 2 (Z.i 0)) 3 t15) 6 t25) (fun j1 =>
 oC 30 #[a0] w R fun t27 w =>
 loop (upd (upd (upd (upd (upd (ini [a0]) 2 (Z.i 0)) 3 t15) 6 t25) 27 t27) 28 (Z.i 0)) w fun e2 g2 w j2 =>
 oP .lss 3 (g2 28) t27 w R fun t29 w =>
 cond t29 (oC 125 #[a0, t25, (g2 28)] w R fun t34 w =>
 oC 117 #[a0, t34] w R fun t37 w =>
 cond t37 (oC 124 #[a0, t34] w R fun t40 w =>
 R (.returned t40) w)
 (oP .add 3 (g2 28) (Z.i 1) w R fun t41 w =>
 j2 (upd (upd (upd (upd (upd (mix [29,7,8,37,2,28] g2 e2) 29 t29) 7 (g2 28)) 8 t34) 37 t37) 28 t41) w))
 (j1 (upd (mix [29,7,8,37,2,28] g2 e2) 29 t29) w)) fun e1 g1 w =>
 oC 124 #[a0, (Z.i 0)] w R fun t43 w =>
 R (.returned t43) w
theorem F86.calls {R w a0} : F86 R w a0 → oX 86 #[a0] w R := Z.k [0,2,3,6,7,8,27,28,29,37]
def F88 (a0 a1 a2 : Value) : Prop :=
 oC 112 #[a0] w R fun t9 w =>
 oA 32 w R fun t7 w =>
 oS 32 t7 t9 w R fun _ w =>
 drawn w fun T w =>
 bJ T w (fun w K => oC 24 #[a0] w aZ K) fun t14 =>
 qG T w 32 t7 0 3 fun t17 =>
 bJ T w (fun w K => oP .rem 3 a1 t17 w aZ K) fun t18 =>
 qG T w 32 t7 1 3 fun t20 =>
 bJ T w (fun w K => oP .mul 3 t18 t20 w aZ K) fun t21 =>
 bJ T w (fun w K => oC 125 #[a0, t14, t21] w aZ K) fun t22 =>
 bJ T w (fun w K => oC 125 #[a0, t22, a2] w aZ K) fun t24 =>
 ext w fun w =>
 oC 124 #[a0, t24] w R fun t25 w =>
 ext w fun w =>
 R (.returned t25) w
theorem F88.calls {R w a0 a1 a2} : F88 R w a0 a1 a2 → oX 88 #[a0, a1, a2] w R := Z.k [0,1,2,6,7]
def F89 (a0 : Value) : Prop :=
 oC 24 #[a0] w R fun t8 w =>
 oC 134 #[a0, t8] w R fun t9 w =>
 oE t9 0 w R fun t10 w =>
 oE t9 1 w R fun t11 w =>
 oU t11 w R fun t13 w =>
 cond t13 (R (.returned (Z.i 41)) w)
 (R (.returned (Z.i 0)) w)
theorem F89.calls {R w a0} : F89 R w a0 → oX 89 #[a0] w R := Z.k [0,2,4,13]
def F90 (a0 : Value) : Prop :=
 bi ((Instr.box 33 a0).run Tryz.prog w) (gz R) fun t1 w =>
 join (upd (upd (upd (ini [a0]) 1 t1) 2 (Z.i 0)) 3 (Z.i 0)) (fun j1 =>
 bi ((Instr.loadAt 33 t1).run Tryz.prog w) (gz R) fun t7 w =>
 lh Tryz.prog 30 #[t7] w (gz R) fun t8 w =>
 loop (upd (upd (upd (upd (upd (ini [a0]) 1 t1) 2 (Z.i 0)) 3 (Z.i 0)) 8 t8) 9 (Z.i 0)) w fun e2 g2 w j2 =>
 bi ((binOp .lss 3 (g2 9) t8).run Tryz.prog w) (gz R) fun t10 w =>
 cond t10 (join (upd (mix [10,4,14,3,9] g2 e2) 10 t10) (fun j3 =>
 bi ((Instr.loadAt 33 t1).run Tryz.prog w) (gz R) fun t12 w =>
 lh Tryz.prog 117 #[t12, (g2 9)] w (gz R) fun t14 w =>
 cond t14 (bi ((Instr.loadAt 33 t1).run Tryz.prog w) (gz R) fun t15 w =>
 bi ((Instr.build 37 #[]).run Tryz.prog w) (gz R) fun t17 w =>
 lh Tryz.prog 14 #[t15, (g2 9), t17] w (gz R) fun t18 w =>
 bi ((binOp .add 3 (g2 3) (Z.i 1)).run Tryz.prog w) (gz R) fun t20 w =>
 j3 (upd (upd (upd (upd (mix [10,4,14,3,9] g2 e2) 10 t10) 4 (g2 9)) 14 t14) 3 t20) w)
 (j3 (upd (upd (upd (mix [10,4,14,3,9] g2 e2) 10 t10) 4 (g2 9)) 14 t14) w)) fun e3 g3 w =>
 bi ((binOp .add 3 (g2 9) (Z.i 1)).run Tryz.prog w) (gz R) fun t21 w =>
 j2 (upd (mix [4,14,3] g3 e3) 9 t21) w)
 (j1 (upd (mix [10,4,14,3,9] g2 e2) 10 t10) w)) fun e1 g1 w =>
 join (mix [8,10,4,14,3,9] g1 e1) (fun j4 =>
 bi ((Instr.loadAt 33 t1).run Tryz.prog w) (gz R) fun t22 w =>
 lh Tryz.prog 135 #[t22] w (gz R) fun t23 w =>
 wV Tryz.prog t23 1 w (fun l5 xs5 w mid5 fin5 =>
 oA 173 w aZ fun t5 w =>
 oS 173 t5 (xs5.getD 0 undef) w aZ fun _ w =>
 mid5 (fun w => oF 173 t5 2 w aZ fun t25 w =>
 oL 5 t25 w aZ fun t26 w =>
 oC 136 #[t26] w aZ fun t27 w =>
 cond t27 (fin5 .normal w)
 (oL 33 t1 w aZ fun t28 w =>
 oF 173 t5 0 w aZ fun t29 w =>
 oL 3 t29 w aZ fun t30 w =>
 oC 31 #[t28, t30] w aZ fun t31 w =>
 oA 37 w aZ fun t6 w =>
 oS 37 t6 t31 w aZ fun _ w =>
 oF 37 t6 0 w aZ fun t32 w =>
 oL 5 t32 w aZ fun t33 w =>
 oC 137 #[t33, (.bool false)] w aZ fun t34 w =>
 oF 37 t6 0 w aZ fun t35 w =>
 oS 5 t35 t34 w aZ fun _ w =>
 oL 33 t1 w aZ fun t36 w =>
 oF 173 t5 0 w aZ fun t37 w =>
 oL 3 t37 w aZ fun t38 w =>
 oL 37 t6 w aZ fun t39 w =>
 oC 14 #[t36, t38, t39] w aZ fun t40 w =>
 fin5 .normal w)) w)
 (fun D w => j4 (upd (upd (mix [8,10,4,14,3,9] g1 e1) 23 t23) 1000000 (mkV D undef)) w)
 []) fun e4 g4 w =>
 drawn w fun T w =>
 bJ T w (fun w K => oL 33 t1 w aZ K) fun t41 =>
 bJ T w (fun w K => oL 33 t1 w aZ K) fun t42 =>
 bJ T w (fun w K => oC 133 #[t42] w aZ K) fun t43 =>
 ext w fun w =>
 lh Tryz.prog 36 #[t41, t43] w (gz R) fun t44 w =>
 ext w fun w =>
 mG (yX (g4 1000000)) w fun w => R (.returned (g1 3)) w
theorem F90.calls {R w a0} : F90 R w a0 → oX 90 #[a0] w R := Z.k [0,1,2,3,4,5,6,8,9,10,14,23,24,27]
def F91 (a0 : Value) : Prop :=
 oC 24 #[a0] w R fun t7 w =>
 oC 117 #[a0, t7] w R fun t10 w =>
 oU t10 w R fun t11 w =>
 cond t11 (R (.returned (Z.i 41)) w)
 (oC 120 #[a0, t7] w R fun t14 w =>
 join (upd (upd (upd (upd (ini [a0]) 2 (Z.i 0)) 3 t7) 11 t11) 4 t14) (fun j1 =>
 oN 176 t14 w R fun t16 w =>
 oP .sub 3 t16 (Z.i 1) w R fun t17 w =>
 loop (upd (upd (upd (upd (upd (upd (ini [a0]) 2 (Z.i 0)) 3 t7) 11 t11) 4 t14) 17 t17) 18 (Z.i 0)) w fun e2 g2 w j2 =>
 oP .lss 3 (g2 18) t17 w R fun t19 w =>
 cond t19 (drawn w fun T w =>
 bJ T w (fun w K => oI 176 t14 (g2 18) w aZ K) fun t24 =>
 bJ T w (fun w K => oL 3 t24 w aZ K) fun t25 =>
 bJ T w (fun w K => oP .add 3 (g2 18) (Z.i 1) w aZ K) fun t29 =>
 bJ T w (fun w K => oI 176 t14 t29 w aZ K) fun t30 =>
 bJ T w (fun w K => oL 3 t30 w aZ K) fun t31 =>
 bJ T w (fun w K => oC 31 #[a0, t31] w aZ K) fun t32 =>
 ext w fun w =>
 oC 14 #[a0, t25, t32] w R fun t33 w =>
 ext w fun w =>
 oP .add 3 (g2 18) (Z.i 1) w R fun t34 w =>
 j2 (upd (upd (upd (mix [19,5,18] g2 e2) 19 t19) 5 (g2 18)) 18 t34) w)
 (j1 (upd (mix [19,5,18] g2 e2) 19 t19) w)) fun e1 g1 w =>
 oN 176 t14 w R fun t38 w =>
 oP .sub 3 t38 (Z.i 1) w R fun t39 w =>
 oI 176 t14 t39 w R fun t40 w =>
 oL 3 t40 w R fun t41 w =>
 oD 37 #[] w R fun t42 w =>
 oC 14 #[a0, t41, t42] w R fun t43 w =>
 oC 73 #[a0, t7] w R fun t46 w =>
 R (.returned (Z.i 0)) w)
theorem F91.calls {R w a0} : F91 R w a0 → oX 91 #[a0] w R := Z.k [0,2,3,4,5,11,17,18,19]
def F92 (a0 a1 : Value) : Prop :=
 oC 24 #[a0] w R fun t8 w =>
 oC 37 #[a0, (Z.u 28), a1] w R fun t11 w =>
 oQ true .neq 25 t11 (Z.i 0) w R fun t13 w =>
 cond t13 (R (.returned t11) w)
 (oC 36 #[a0, t8] w R fun t17 w =>
 oC 84 #[a0] w R fun t19 w =>
 R (.returned (Z.i 0)) w)
theorem F92.calls {R w a0 a1} : F92 R w a0 a1 → oX 92 #[a0, a1] w R := Z.k [0,1,4,5,6,13]
def F93 (a0 a1 : Value) : Prop :=
 oC 37 #[a0, (Z.u 30), a1] w R fun t7 w =>
 R (.returned t7) w
theorem F93.calls {R w a0 a1} : F93 R w a0 a1 → oX 93 #[a0, a1] w R := Z.k [0,1,4]
def Z5 (a0 : Value) : Prop :=
 oA 158 w R fun t2 w =>
 join (upd (upd (ini [a0]) 2 t2) 3 (.bool false)) (fun j1 =>
 oC 145 #[] w R fun t6 w =>
 oN 200 t6 w R fun t7 w =>
 loop (upd (upd (upd (upd (upd (ini [a0]) 2 t2) 3 (.bool false)) 6 t6) 7 t7) 8 (Z.i 0)) w fun e2 g2 w j2 =>
 oP .lss 3 (g2 8) t7 w R fun t9 w =>
 cond t9 (oI 200 t6 (g2 8) w R fun t10 w =>
 oL 158 t10 w R fun t11 w =>
 oA 158 w R fun t5 w =>
 oS 158 t5 t11 w R fun _ w =>
 oG 158 t5 0 5 w R fun t13 w =>
 oQ false .eql 5 t13 a0 w R fun t15 w =>
 gd t15 false (fun K => oF 158 t5 1 w R K) w fun t17 w =>
 gd t15 false (fun K => oL 5 t17 w R K) w fun t18 w =>
 gd t15 false (fun K => K a0 w) w fun t19 w =>
 gd t15 false (fun K => oQ false .eql 5 t18 t19 w R K) w fun t20 w =>
 pick t15 (.bool true) t20 w fun t21 w =>
 cond t21 (oL 158 t5 w R fun t22 w =>
 oS 158 t2 t22 w R fun _ w =>
 jo ((Instr.loadAt 158 t2).run Tryz.prog w) w fun r0 =>
 R (.returned (.tuple #[r0, (.bool true)])) w)
 (oP .add 3 (g2 8) (Z.i 1) w R fun t23 w =>
 j2 (upd (upd (upd (upd (mix [9,5,21,3,8] g2 e2) 9 t9) 5 t5) 21 t21) 8 t23) w))
 (j1 (upd (mix [9,5,21,3,8] g2 e2) 9 t9) w)) fun e1 g1 w =>
 oD 158 #[] w R fun t24 w =>
 oS 158 t2 t24 w R fun _ w =>
 jo ((Instr.loadAt 158 t2).run Tryz.prog w) w fun r0 =>
 R (.returned (.tuple #[r0, (.bool false)])) w
theorem Z5.calls {R w a0} : Z5 R w a0 → oX 102 #[a0] w R := Z.k [0,2,3,5,6,7,8,9,21]
def ZU (a0 : Value) : Prop :=
 oQ true .eql 5 a0 (Z.u 241) w R fun t4 w =>
 gd t4 false (fun K => K a0 w) w fun t6 w =>
 gd t4 false (fun K => oQ true .eql 5 t6 (Z.u 245) w R K) w fun t7 w =>
 pick t4 (.bool true) t7 w fun t8 w =>
 gd t8 false (fun K => K a0 w) w fun t10 w =>
 gd t8 false (fun K => oQ true .eql 5 t10 (Z.u 126) w R K) w fun t11 w =>
 pick t8 (.bool true) t11 w fun t12 w =>
 R (.returned t12) w
theorem ZU.calls {R w a0} : ZU R w a0 → oX 103 #[a0] w R := Z.k [0,2]
def aah (a0 : Value) : Prop :=
 join (upd (upd (upd (ini [a0]) 2 (.slice none 0 0)) 3 (Z.i 0)) 4 (.slice none 0 0)) (fun j1 =>
 loop (upd (upd (upd (ini [a0]) 2 (.slice none 0 0)) 3 (Z.i 0)) 4 (.slice none 0 0)) w fun e2 g2 w j2 =>
 oN 24 (g2 0) w R fun t11 w =>
 oP .gtr 3 t11 (Z.i 0) w R fun t12 w =>
 cond t12 (oC 148 #[(g2 0)] w R fun t15 w =>
 oE t15 0 w R fun t16 w =>
 oE t15 1 w R fun t17 w =>
 oE t15 2 w R fun t18 w =>
 oQ true .neq 25 t18 (Z.i 0) w R fun t20 w =>
 cond t20 (R (.returned (.tuple #[(g2 4), t18])) w)
 (oC 149 #[t16] w R fun t25 w =>
 oE t25 0 w R fun t26 w =>
 oE t25 1 w R fun t27 w =>
 oA 214 w R fun t8 w =>
 oS 214 t8 t26 w R fun _ w =>
 oU t27 w R fun t29 w =>
 cond t29 (R (.returned (.tuple #[(g2 4), (Z.i 34)])) w)
 (oL 214 t8 w R fun t32 w =>
 bi ((Instr.buildSlice 122 1 #[(0, t32)]).run Tryz.prog w) R fun t33 w =>
 bi ((Builtin.append_ #[122, 122] 122 #[(g2 4), t33]).run Tryz.prog w) R fun t34 w =>
 j2 (upd (upd (upd (upd (upd (upd (upd (upd (upd (upd (mix [12,5,6,7,20,8,9,29,2,3,4,0] g2 e2) 12 t12) 5 t16) 6 t17) 7 t18) 20 t20) 8 t8) 9 t27) 29 t29) 4 t34) 0 t17) w)))
 (j1 (upd (mix [12,5,6,7,20,8,9,29,2,3,4,0] g2 e2) 12 t12) w)) fun e1 g1 w =>
 R (.returned (.tuple #[(g1 4), (Z.i 0)])) w
theorem aah.calls {R w a0} : aah R w a0 → oX 105 #[a0] w R := Z.k [0,2,3,4,5,6,7,8,9,12,20,29]
def ZY (a0 : Value) : Prop :=
 oP .and 5 a0 (Z.u 1) w R fun t4 w =>
 oQ true .neq 5 t4 (Z.u 0) w R fun t5 w =>
 R (.returned t5) w
theorem ZY.calls {R w a0} : ZY R w a0 → oX 106 #[a0] w R := Z.k [0,2]
def abg (a0 : Value) : Prop :=
 bi ((Instr.box 33 a0).run Tryz.prog w) (gz R) fun t1 w =>
 bi ((Instr.alloc 3 true (.tuple #[])).run Tryz.prog w) (gz R) fun t3 w =>
 uw ((Instr.storeAt 3 t3 (Z.i 0)).run Tryz.prog w) (gz R) fun _ w =>
 join (upd (upd (upd (ini [a0]) 1 t1) 2 (Z.i 0)) 3 t3) (fun j1 =>
 bi ((Instr.loadAt 33 t1).run Tryz.prog w) (gz R) fun t5 w =>
 lh Tryz.prog 135 #[t5] w (gz R) fun t6 w =>
 wV Tryz.prog t6 1 w (fun l2 xs2 w mid2 fin2 =>
 oA 173 w aZ fun t4 w =>
 oS 173 t4 (xs2.getD 0 undef) w aZ fun _ w =>
 mid2 (fun w => oF 173 t4 2 w aZ fun t8 w =>
 oL 5 t8 w aZ fun t9 w =>
 oC 140 #[t9] w aZ fun t10 w =>
 cond t10 (oL 3 t3 w aZ fun t11 w =>
 oP .add 3 t11 (Z.i 1) w aZ fun t12 w =>
 oS 3 t3 t12 w aZ fun _ w =>
 oL 33 t1 w aZ fun t13 w =>
 oF 173 t4 0 w aZ fun t14 w =>
 oL 3 t14 w aZ fun t15 w =>
 oC 123 #[t13, t15, (.bool false)] w aZ fun t16 w =>
 fin2 .normal w)
 (fin2 .normal w)) w)
 (fun D w => j1 (upd (upd (upd (upd (upd (ini [a0]) 1 t1) 2 (Z.i 0)) 3 t3) 6 t6) 1000000 (mkV D undef)) w)
 []) fun e1 g1 w =>
 bi ((Instr.loadAt 3 t3).run Tryz.prog w) (gz R) fun t17 w =>
 mG (yX (g1 1000000)) w fun w => R (.returned t17) w
theorem abg.calls {R w a0} : abg R w a0 → oX 107 #[a0] w R := Z.k [0,1,2,3,4,6,7,10]
def abh (a0 a1 a2 : Value) : Prop :=
 oB 124 a1 w R fun t4 w =>
 oA 66 w R fun t6 w =>
 drawn w fun T w =>
 bJ Ext w (fun w K => df a0 w K) fun t12 =>
 qG Ext w 89 t12 2 33 fun t14 =>
 qG Ext w 124 t4 2 121 fun t16 =>
 ext w fun w =>
 zA T w (fun w K => oC 150 #[t14, t16, a2] w R K) fun t18 w =>
 bJ T w (fun w K => oE t18 0 w aZ K) fun t19 =>
 bJ T w (fun w K => oE t18 1 w aZ K) fun t20 =>
 bJ T w (fun w K => oE t18 2 w aZ K) fun t21 =>
 ext w fun w =>
 join (upd (upd (upd (ini [a0, a1, a2]) 4 t4) 6 t6) 9 t21) (fun j1 =>
 oQ true .eql 25 t21 (Z.i 0) w R fun t23 w =>
 cond t23 (oG 124 t4 3 25 w R fun t25 w =>
 j1 (upd (upd (upd (upd (upd (ini [a0, a1, a2]) 4 t4) 6 t6) 9 t21) 23 t23) 9 t25) w)
 (j1 (upd (upd (upd (upd (ini [a0, a1, a2]) 4 t4) 6 t6) 9 t21) 23 t23) w)) fun e1 g1 w =>
 oQ true .neq 25 (g1 9) (Z.i 0) w R fun t27 w =>
 cond t27 (oD 66 #[(3, (g1 9))] w R fun t29 w =>
 oS 66 t6 t29 w R fun _ w =>
 jo ((Instr.loadAt 66 t6).run Tryz.prog w) w fun r0 =>
 R (.returned r0) w)
 (drawn w fun T w =>
 qG T w 124 t4 1 5 fun t31 =>
 bJ T w (fun w K => oC 151 #[t31] w aZ K) fun t32 =>
 qG T w 124 t4 1 5 fun t34 =>
 bJ T w (fun w K => oC 152 #[t34] w aZ K) fun t35 =>
 bJ T w (fun w K => oD 66 #[(1, t32), (2, t35)] w aZ K) fun t36 =>
 ext w fun w =>
 oS 66 t6 t36 w R fun _ w =>
 ext w fun w =>
 jo ((Instr.loadAt 66 t6).run Tryz.prog w) w fun r0 =>
 R (.returned r0) w)
theorem abh.calls {R w a0 a1 a2} : abh R w a0 a1 a2 → oX 108 #[a0, a1, a2] w R := Z.k [0,1,2,4,6,9,23,27]
def QY (a0 a1 a2 : Value) : Prop :=
 oB 124 a1 w R fun t4 w =>
 oA 66 w R fun t6 w =>
 oC 82 #[a0, a2] w R fun t9 w =>
 oL 124 t4 w R fun t11 w =>
 oC 108 #[a0, t11, (Z.i 0)] w R fun t12 w =>
 oS 66 t6 t12 w R fun _ w =>
 jo ((Instr.loadAt 66 t6).run Tryz.prog w) w fun r0 =>
 R (.returned r0) w
theorem QY.calls {R w a0 a1 a2} : QY R w a0 a1 a2 → oX 109 #[a0, a1, a2] w R := Z.k [0,1,2,4,6]
def abj (a0 a1 : Value) : Prop :=
 oB 124 a1 w R fun t3 w =>
 oA 66 w R fun t4 w =>
 oA 66 w R fun t5 w =>
 join (upd (upd (upd (ini [a0, a1]) 3 t3) 4 t4) 5 t5) (fun j1 =>
 oG 124 t3 4 122 w R fun t10 w =>
 oN 122 t10 w R fun t11 w =>
 loop (upd (upd (upd (upd (upd (upd (ini [a0, a1]) 3 t3) 4 t4) 5 t5) 10 t10) 11 t11) 12 (Z.i 0)) w fun e2 g2 w j2 =>
 oP .lss 3 (g2 12) t11 w R fun t13 w =>
 cond t13 (oI 122 t10 (g2 12) w R fun t14 w =>
 oL 214 t14 w R fun t15 w =>
 oA 214 w R fun t7 w =>
 oS 214 t7 t15 w R fun _ w =>
 oL 214 t7 w R fun t17 w =>
 oC 153 #[a0, t17] w R fun t18 w =>
 oA 66 w R fun t8 w =>
 oS 66 t8 t18 w R fun _ w =>
 oG 66 t8 3 25 w R fun t20 w =>
 oQ true .neq 25 t20 (Z.i 0) w R fun t21 w =>
 cond t21 (oG 66 t8 3 25 w R fun t23 w =>
 oD 66 #[(3, t23)] w R fun t24 w =>
 oS 66 t4 t24 w R fun _ w =>
 jo ((Instr.loadAt 66 t4).run Tryz.prog w) w fun r0 =>
 R (.returned r0) w)
 (join (upd (upd (upd (upd (mix [13,7,8,21,27,12] g2 e2) 13 t13) 7 t7) 8 t8) 21 t21) (fun j3 =>
 oG 66 t5 0 5 w R fun t26 w =>
 oQ true .eql 5 t26 (Z.u 0) w R fun t27 w =>
 cond t27 (oG 66 t8 0 5 w R fun t29 w =>
 oF 66 t5 0 w R fun t30 w =>
 oS 5 t30 t29 w R fun _ w =>
 j3 (upd (upd (upd (upd (upd (mix [13,7,8,21,27,12] g2 e2) 13 t13) 7 t7) 8 t8) 21 t21) 27 t27) w)
 (j3 (upd (upd (upd (upd (upd (mix [13,7,8,21,27,12] g2 e2) 13 t13) 7 t7) 8 t8) 21 t21) 27 t27) w)) fun e3 g3 w =>
 drawn w fun T w =>
 qG Ext w 66 t5 1 4 fun t32 =>
 bJ Ext w (fun w K => gd t32 false (fun K => oF 66 t8 1 w aZ K) w K) fun t34 =>
 bJ Ext w (fun w K => gd t32 false (fun K => oL 4 t34 w aZ K) w K) fun t35 =>
 bJ Ext w (fun w K => pick t32 (.bool true) t35 w K) fun t36 =>
 qG Ext w 66 t5 2 4 fun t38 =>
 bJ T w (fun w K => gd t38 false (fun K => oF 66 t8 2 w aZ K) w K) fun t40 =>
 bJ T w (fun w K => gd t38 false (fun K => oL 4 t40 w aZ K) w K) fun t41 =>
 bJ T w (fun w K => pick t38 (.bool true) t41 w K) fun t42 =>
 bJ Ext w (fun w K => oF 66 t5 1 w aZ K) fun t43 =>
 ext w fun w =>
 zA T w (fun w K => oS 4 t43 t36 w R K) fun _ w =>
 bJ T w (fun w K => oF 66 t5 2 w aZ K) fun t44 =>
 ext w fun w =>
 oS 4 t44 t42 w R fun _ w =>
 ext w fun w =>
 oP .add 3 (g2 12) (Z.i 1) w R fun t45 w =>
 j2 (upd (mix [27] g3 e3) 12 t45) w))
 (j1 (upd (mix [13,7,8,21,27,12] g2 e2) 13 t13) w)) fun e1 g1 w =>
 oG 124 t3 3 25 w R fun t47 w =>
 oQ true .neq 25 t47 (Z.i 0) w R fun t48 w =>
 cond t48 (oG 124 t3 3 25 w R fun t50 w =>
 oD 66 #[(3, t50)] w R fun t51 w =>
 oS 66 t4 t51 w R fun _ w =>
 jo ((Instr.loadAt 66 t4).run Tryz.prog w) w fun r0 =>
 R (.returned r0) w)
 (oL 66 t5 w R fun t52 w =>
 oS 66 t4 t52 w R fun _ w =>
 jo ((Instr.loadAt 66 t4).run Tryz.prog w) w fun r0 =>
 R (.returned r0) w)
theorem abj.calls {R w a0 a1} : abj R w a0 a1 → oX 110 #[a0, a1] w R := Z.k [0,1,3,4,5,7,8,10,11,12,13,21,27,48]
def aaB (a0 : Value) : Prop :=
 oC 155 #[a0] w R fun t4 w =>
 gd t4 false (fun K => K a0 w) w fun t6 w =>
 gd t4 false (fun K => oQ true .eql 5 t6 (Z.u 75) w R K) w fun t7 w =>
 pick t4 (.bool true) t7 w fun t8 w =>
 gd t8 false (fun K => K a0 w) w fun t10 w =>
 gd t8 false (fun K => oQ true .eql 5 t10 (Z.u 96) w R K) w fun t11 w =>
 pick t8 (.bool true) t11 w fun t12 w =>
 gd t12 false (fun K => K a0 w) w fun t14 w =>
 gd t12 false (fun K => oQ true .eql 5 t14 (Z.u 28) w R K) w fun t15 w =>
 pick t12 (.bool true) t15 w fun t16 w =>
 R (.returned t16) w
theorem aaB.calls {R w a0} : aaB R w a0 → oX 119 #[a0] w R := Z.k [0,2]
def aaC (a0 a1 : Value) : Prop :=
 bi ((Instr.box 3 a1).run Tryz.prog w) (gz R) fun t3 w =>
 bi ((Instr.alloc 176 true (.tuple #[])).run Tryz.prog w) (gz R) fun t5 w =>
 bi ((Instr.loadAt 3 t3).run Tryz.prog w) (gz R) fun t12 w =>
 lh Tryz.prog 116 #[a0, t12] w (gz R) fun t13 w =>
 bi ((Instr.extract t13 0).run Tryz.prog w) (gz R) fun t14 w =>
 bi ((Instr.extract t13 1).run Tryz.prog w) (gz R) fun t15 w =>
 bi ((Instr.alloc 173 true (.tuple #[])).run Tryz.prog w) (gz R) fun t6 w =>
 uw ((Instr.storeAt 173 t6 t14).run Tryz.prog w) (gz R) fun _ w =>
 join (upd (upd (upd (upd (upd (ini [a0, a1]) 3 t3) 4 (.slice none 0 0)) 5 t5) 6 t6) 7 t15) (fun j1 =>
 bi ((Op.unary .not t15).run Tryz.prog w) (gz R) fun t17 w =>
 cond t17 (join (upd (upd (upd (upd (upd (upd (ini [a0, a1]) 3 t3) 4 (.slice none 0 0)) 5 t5) 6 t6) 7 t15) 17 t17) (fun j2 =>
 bi ((Instr.loadAt 3 t3).run Tryz.prog w) (gz R) fun t18 w =>
 loop (upd (upd (upd (upd (upd (upd (upd (ini [a0, a1]) 3 t3) 4 (.slice none 0 0)) 5 t5) 6 t6) 7 t15) 17 t17) 8 t18) w fun e3 g3 w j3 =>
 lh Tryz.prog 30 #[a0] w (gz R) fun t21 w =>
 bi ((binOp .lss 3 (g3 8) t21).run Tryz.prog w) (gz R) fun t22 w =>
 cond t22 (bi ((Instr.loadAt 176 t5).run Tryz.prog w) (gz R) fun t25 w =>
 bi ((Instr.buildSlice 176 1 #[(0, (g3 8))]).run Tryz.prog w) (gz R) fun t27 w =>
 bi ((Builtin.append_ #[176, 176] 176 #[t25, t27]).run Tryz.prog w) (gz R) fun t28 w =>
 uw ((Instr.storeAt 176 t5 t28).run Tryz.prog w) (gz R) fun _ w =>
 bi ((binOp .add 3 (g3 8) (Z.i 1)).run Tryz.prog w) (gz R) fun t24 w =>
 j3 (upd (upd (mix [22,8] g3 e3) 22 t22) 8 t24) w)
 (j2 (upd (mix [22,8] g3 e3) 22 t22) w)) fun e2 g2 w =>
 bi ((Instr.loadAt 176 t5).run Tryz.prog w) (gz R) fun t29 w =>
 mG (yX undef) w fun w => R (.returned t29) w)
 (j1 (upd (upd (upd (upd (upd (upd (ini [a0, a1]) 3 t3) 4 (.slice none 0 0)) 5 t5) 6 t6) 7 t15) 17 t17) w)) fun e1 g1 w =>
 join (mix [17,22,8,4] g1 e1) (fun j4 =>
 bi ((Instr.loadAt 173 t6).run Tryz.prog w) (gz R) fun t31 w =>
 lh Tryz.prog 141 #[a0, t31] w (gz R) fun t32 w =>
 wV Tryz.prog t32 1 w (fun l5 xs5 w mid5 fin5 =>
 mid5 (fun w => oL 3 t3 w aZ fun t35 w =>
 oQ false .eql 3 (xs5.getD 0 undef) t35 w aZ fun t36 w =>
 gd t36 false (fun K => oL 176 t5 w aZ K) w fun t38 w =>
 gd t36 false (fun K => oN 176 t38 w aZ K) w fun t39 w =>
 gd t36 false (fun K => oP .gtr 3 t39 (Z.i 0) w aZ K) w fun t40 w =>
 pick t36 (.bool true) t40 w fun t41 w =>
 cond t41 (oL 176 t5 w aZ fun t42 w =>
 bi ((Instr.buildSlice 176 1 #[(0, (xs5.getD 0 undef))]).run Tryz.prog w) aZ fun t44 w =>
 bi ((Builtin.append_ #[176, 176] 176 #[t42, t44]).run Tryz.prog w) aZ fun t45 w =>
 oS 176 t5 t45 w aZ fun _ w =>
 fin5 .normal w)
 (fin5 .normal w)) w)
 (fun D w => j4 (upd (upd (mix [17,22,8,4] g1 e1) 32 t32) 1000000 (mkV D undef)) w)
 []) fun e4 g4 w =>
 bi ((Instr.loadAt 176 t5).run Tryz.prog w) (gz R) fun t46 w =>
 mG (yX (g4 1000000)) w fun w => R (.returned t46) w
theorem aaC.calls {R w a0 a1} : aaC R w a0 a1 → oX 120 #[a0, a1] w R := Z.k [0,1,3,4,5,6,7,8,9,17,22,32,33,41]
def aaH (a0 a1 : Value) : Prop :=
 join (upd (ini [a0, a1]) 4 (Z.i 0)) (fun j1 =>
 oN 176 a0 w R fun t7 w =>
 loop (upd (upd (upd (ini [a0, a1]) 4 (Z.i 0)) 7 t7) 8 (Z.i 0)) w fun e2 g2 w j2 =>
 oP .lss 3 (g2 8) t7 w R fun t9 w =>
 cond t9 (oI 176 a0 (g2 8) w R fun t14 w =>
 oL 3 t14 w R fun t15 w =>
 CV Tryz.prog a1 #[t15] w R fun t16 w =>
 cond t16 (R (.returned (g2 8)) w)
 (oP .add 3 (g2 8) (Z.i 1) w R fun t18 w =>
 j2 (upd (upd (upd (upd (mix [9,5,16,4,8] g2 e2) 9 t9) 5 (g2 8)) 16 t16) 8 t18) w))
 (j1 (upd (mix [9,5,16,4,8] g2 e2) 9 t9) w)) fun e1 g1 w =>
 R (.returned (Z.i (-1))) w
theorem aaH.calls {R w a0 a1} : aaH R w a0 a1 → oX 121 #[a0, a1] w R := Z.k [0,1,4,5,7,8,9,16]
def aaG (a0 a1 : Value) : Prop :=
 oL 33 a1 w R fun t4 w =>
 oC 31 #[t4, a0] w R fun t6 w =>
 bi ((Instr.field 37 t6 0).run Tryz.prog w) R fun t7 w =>
 oQ true .eql 5 t7 (Z.u 0) w R fun t8 w =>
 gd t8 true (fun K => oL 33 a1 w R K) w fun t10 w =>
 gd t8 true (fun K => K a0 w) w fun t11 w =>
 gd t8 true (fun K => oC 31 #[t10, t11] w R K) w fun t12 w =>
 gd t8 true (fun K => bi ((Instr.field 37 t12 1).run Tryz.prog w) R K) w fun t13 w =>
 gd t8 true (fun K => oU t13 w R K) w fun t14 w =>
 pick t8 t14 (.bool false) w fun t15 w =>
 R (.returned t15) w
theorem aaG.calls {R w a0 a1} : aaG R w a0 a1 → oX 122 #[a0, a1] w R := Z.k [0,1,3]
def aaz (a0 a1 a2 : Value) : Prop :=
 join (upd (ini [a0, a1, a2]) 6 (Z.i 0)) (fun j1 =>
 oC 30 #[a0] w R fun t10 w =>
 loop (upd (upd (upd (ini [a0, a1, a2]) 6 (Z.i 0)) 10 t10) 11 (Z.i 0)) w fun e2 g2 w j2 =>
 oP .lss 3 (g2 11) t10 w R fun t12 w =>
 cond t12 (oP .mul 3 (g2 11) a2 w R fun t18 w =>
 oC 125 #[a0, a1, t18] w R fun t19 w =>
 oC 131 #[a0, t19] w R fun t22 w =>
 cond t22 (oC 125 #[a0, t19, (Z.i 1)] w R fun t25 w =>
 R (.returned t25) w)
 (oP .add 3 (g2 11) (Z.i 1) w R fun t26 w =>
 j2 (upd (upd (upd (upd (upd (mix [12,7,8,22,6,11] g2 e2) 12 t12) 7 (g2 11)) 8 t19) 22 t22) 11 t26) w))
 (j1 (upd (mix [12,7,8,22,6,11] g2 e2) 12 t12) w)) fun e1 g1 w =>
 R (.returned (Z.i 0)) w
theorem aaz.calls {R w a0 a1 a2} : aaz R w a0 a1 a2 → oX 130 #[a0, a1, a2] w R := Z.k [0,1,2,6,7,8,10,11,12,22]
def aax (a0 a1 : Value) : Prop :=
 oC 116 #[a0, a1] w R fun t10 w =>
 oE t10 0 w R fun t11 w =>
 oE t10 1 w R fun t12 w =>
 oA 173 w R fun t5 w =>
 oS 173 t5 t11 w R fun _ w =>
 gd t12 true (fun K => oF 173 t5 0 w R K) w fun t15 w =>
 gd t12 true (fun K => oL 3 t15 w R K) w fun t16 w =>
 gd t12 true (fun K => K a1 w) w fun t17 w =>
 gd t12 true (fun K => oQ false .eql 3 t16 t17 w R K) w fun t18 w =>
 pick t12 t18 (.bool false) w fun t19 w =>
 gd t19 true (fun K => oF 173 t5 1 w R K) w fun t21 w =>
 gd t19 true (fun K => oL 3 t21 w R K) w fun t22 w =>
 gd t19 true (fun K => oP .gtr 3 t22 (Z.i 0) w R K) w fun t23 w =>
 pick t19 t23 (.bool false) w fun t24 w =>
 gd t24 true (fun K => oF 173 t5 2 w R K) w fun t26 w =>
 gd t24 true (fun K => oL 5 t26 w R K) w fun t27 w =>
 gd t24 true (fun K => oC 136 #[t27] w R K) w fun t28 w =>
 gd t24 true (fun K => oU t28 w R K) w fun t29 w =>
 pick t24 t29 (.bool false) w fun t30 w =>
 R (.returned t30) w
theorem aax.calls {R w a0 a1} : aax R w a0 a1 → oX 131 #[a0, a1] w R := Z.k [0,1,4,5,6]
def aaw (a0 a1 : Value) : Prop :=
 oB 32 a0 w R fun t2 w =>
 oP .lss 3 a1 (Z.i 0) w R fun t8 w =>
 gd t8 false (fun K => K a1 w) w fun t10 w =>
 gd t8 false (fun K => oL 32 t2 w R K) w fun t11 w =>
 gd t8 false (fun K => oC 43 #[t11] w R K) w fun t12 w =>
 gd t8 false (fun K => oP .geq 3 t10 t12 w R K) w fun t13 w =>
 pick t8 (.bool true) t13 w fun t14 w =>
 cond t14 (R (.returned (.tuple #[(Z.i 0), (Z.i 0), (.bool false)])) w)
 (drawn w fun T w =>
 qG T w 32 t2 1 3 fun t17 =>
 bJ T w (fun w K => oP .quo 3 a1 t17 w aZ K) fun t18 =>
 qG T w 32 t2 1 3 fun t21 =>
 bJ T w (fun w K => oP .rem 3 a1 t21 w aZ K) fun t22 =>
 ext w fun w =>
 R (.returned (.tuple #[t18, t22, (.bool true)])) w)
theorem aaw.calls {R w a0 a1} : aaw R w a0 a1 → oX 132 #[a0, a1] w R := Z.k [0,1,2,4,5,6,14]
def aaI (a0 a1 : Value) : Prop :=
 bi ((Instr.box 33 a0).run Tryz.prog w) (gz R) fun t2 w =>
 bi ((Instr.box 3 a1).run Tryz.prog w) (gz R) fun t3 w =>
 bi ((Instr.loadAt 33 t2).run Tryz.prog w) (gz R) fun t11 w =>
 bi ((Instr.loadAt 3 t3).run Tryz.prog w) (gz R) fun t12 w =>
 lh Tryz.prog 117 #[t11, t12] w (gz R) fun t13 w =>
 bi ((Op.unary .not t13).run Tryz.prog w) (gz R) fun t14 w =>
 cond t14 (mG (yX undef) w fun w => R (.returned (.tuple #[(Z.i 0), (.bool false)])) w)
 (bi ((Instr.loadAt 33 t2).run Tryz.prog w) (gz R) fun t16 w =>
 bi ((Instr.loadAt 3 t3).run Tryz.prog w) (gz R) fun t17 w =>
 lh Tryz.prog 116 #[t16, t17] w (gz R) fun t18 w =>
 bi ((Instr.extract t18 0).run Tryz.prog w) (gz R) fun t19 w =>
 bi ((Instr.extract t18 1).run Tryz.prog w) (gz R) fun t20 w =>
 bi ((Instr.alloc 173 true (.tuple #[])).run Tryz.prog w) (gz R) fun t6 w =>
 uw ((Instr.storeAt 173 t6 t19).run Tryz.prog w) (gz R) fun _ w =>
 bi ((Op.unary .not t20).run Tryz.prog w) (gz R) fun t22 w =>
 cond t22 (drawn w fun T w =>
 bJ T w (fun w K => oL 33 t2 w aZ K) fun t23 =>
 bJ T w (fun w K => oC 30 #[t23] w aZ K) fun t24 =>
 bJ T w (fun w K => oL 3 t3 w aZ K) fun t25 =>
 bJ T w (fun w K => oP .sub 3 t24 t25 w aZ K) fun t26 =>
 ext w fun w =>
 bi ((Instr.loadAt 33 t2).run Tryz.prog w) (gz R) fun t27 w =>
 bi ((Instr.loadAt 3 t3).run Tryz.prog w) (gz R) fun t28 w =>
 bi ((Instr.build 37 #[]).run Tryz.prog w) (gz R) fun t29 w =>
 lh Tryz.prog 157 #[t27, t28, (Z.i 0), t29] w (gz R) fun t30 w =>
 mG (yX undef) w fun w => R (.returned (.tuple #[t26, (.bool true)])) w)
 (bi ((Instr.alloc 3 true (.tuple #[])).run Tryz.prog w) (gz R) fun t9 w =>
 uw ((Instr.storeAt 3 t9 (Z.i 0)).run Tryz.prog w) (gz R) fun _ w =>
 join (upd (upd (upd (upd (upd (upd (upd (upd (upd (ini [a0, a1]) 2 t2) 3 t3) 4 (Z.i 0)) 5 (.bool false)) 14 t14) 6 t6) 7 t20) 22 t22) 9 t9) (fun j1 =>
 bi ((Instr.loadAt 33 t2).run Tryz.prog w) (gz R) fun t32 w =>
 bi ((Instr.loadAt 173 t6).run Tryz.prog w) (gz R) fun t33 w =>
 lh Tryz.prog 141 #[t32, t33] w (gz R) fun t34 w =>
 wV Tryz.prog t34 1 w (fun l2 xs2 w mid2 fin2 =>
 mid2 (fun w => oL 3 t3 w aZ fun t37 w =>
 oQ false .eql 3 (xs2.getD 0 undef) t37 w aZ fun t38 w =>
 gd t38 false (fun K => oL 3 t9 w aZ K) w fun t40 w =>
 gd t38 false (fun K => oP .gtr 3 t40 (Z.i 0) w aZ K) w fun t41 w =>
 pick t38 (.bool true) t41 w fun t42 w =>
 cond t42 (oL 33 t2 w aZ fun t43 w =>
 oD 37 #[] w aZ fun t45 w =>
 oC 14 #[t43, (xs2.getD 0 undef), t45] w aZ fun t46 w =>
 oL 3 t9 w aZ fun t47 w =>
 oP .add 3 t47 (Z.i 1) w aZ fun t48 w =>
 oS 3 t9 t48 w aZ fun _ w =>
 fin2 .normal w)
 (fin2 .normal w)) w)
 (fun D w => j1 (upd (upd (upd (upd (upd (upd (upd (upd (upd (upd (upd (ini [a0, a1]) 2 t2) 3 t3) 4 (Z.i 0)) 5 (.bool false)) 14 t14) 6 t6) 7 t20) 22 t22) 9 t9) 34 t34) 1000000 (mkV D undef)) w)
 []) fun e1 g1 w =>
 drawn w fun T w =>
 bJ T w (fun w K => oL 3 t9 w aZ K) fun t49 =>
 bJ Ext w (fun w K => oL 33 t2 w aZ K) fun t50 =>
 bJ Ext w (fun w K => oL 3 t3 w aZ K) fun t51 =>
 ext w fun w =>
 zA T w (fun w K => lh Tryz.prog 73 #[t50, t51] w (gz R) K) fun t52 w =>
 ext w fun w =>
 mG (yX (g1 1000000)) w fun w => R (.returned (.tuple #[t49, t52])) w))
theorem aaI.calls {R w a0 a1} : aaI R w a0 a1 → oX 134 #[a0, a1] w R := Z.k [0,1,2,3,4,5,6,7,8,9,10,14,22,34,35,42]
def abk (a0 : Value) : Prop :=
 oA 209 w R fun t2 w =>
 drawn w fun T w =>
 bJ T w (fun w K => df a0 w K) fun t5 =>
 qG T w 204 t5 0 24 fun t7 =>
 bJ T w (fun w K => df a0 w K) fun t9 =>
 qG T w 204 t9 1 3 fun t11 =>
 bJ T w (fun w K => oI 24 t7 t11 w aZ K) fun t12 =>
 bJ T w (fun w K => oL 5 t12 w aZ K) fun t13 =>
 bJ T w (fun w K => oC 115 #[t13] w aZ K) fun t14 =>
 ext w fun w =>
 cond t14 (oC 162 #[a0] w R fun t16 w =>
 oS 209 t2 t16 w R fun _ w =>
 jo ((Instr.loadAt 209 t2).run Tryz.prog w) w fun r0 =>
 R (.returned r0) w)
 (oC 163 #[a0] w R fun t18 w =>
 join (upd (upd (upd (upd (ini [a0]) 2 t2) 14 t14) 3 t18) 19 t18) (fun j1 =>
 oQ true .eql 5 t18 (Z.u 17) w R fun t21 w =>
 cond t21 (j1 (upd (upd (upd (upd (upd (ini [a0]) 2 t2) 14 t14) 3 t18) 19 t18) 20 t21) w)
 (oQ true .eql 5 t18 (Z.u 18) w R fun t22 w =>
 j1 (upd (upd (upd (upd (upd (upd (ini [a0]) 2 t2) 14 t14) 3 t18) 19 t18) 20 t21) 20 t22) w)) fun e1 g1 w =>
 cond (g1 20) (oC 164 #[a0] w R fun t25 w =>
 oD 209 #[(0, t18), (1, t25)] w R fun t26 w =>
 oS 209 t2 t26 w R fun _ w =>
 jo ((Instr.loadAt 209 t2).run Tryz.prog w) w fun r0 =>
 R (.returned r0) w)
 (oQ true .eql 5 t18 (Z.u 29) w R fun t28 w =>
 cond t28 (oC 163 #[a0] w R fun t31 w =>
 oP .and 5 t31 (Z.u 63) w R fun t32 w =>
 oD 209 #[(0, t18), (2, t32)] w R fun t33 w =>
 oS 209 t2 t33 w R fun _ w =>
 jo ((Instr.loadAt 209 t2).run Tryz.prog w) w fun r0 =>
 R (.returned r0) w)
 (join (upd (mix [20] g1 e1) 27 t28) (fun j2 =>
 oQ true .eql 5 t18 (Z.u 41) w R fun t35 w =>
 cond t35 (j2 (upd (upd (mix [20] g1 e1) 27 t28) 34 t35) w)
 (oQ true .eql 5 t18 (Z.u 44) w R fun t36 w =>
 j2 (upd (upd (upd (mix [20] g1 e1) 27 t28) 34 t35) 34 t36) w)) fun e2 g2 w =>
 cond (g2 34) (oC 163 #[a0] w R fun t41 w =>
 bi ((convert 5 3 t41).run Tryz.prog w) R fun t42 w =>
 oC 165 #[a0, t18, t42] w R fun t43 w =>
 oD 209 #[(0, t18), (4, t43)] w R fun t44 w =>
 oS 209 t2 t44 w R fun _ w =>
 jo ((Instr.loadAt 209 t2).run Tryz.prog w) w fun r0 =>
 R (.returned r0) w)
 (oQ true .eql 5 t18 (Z.u 40) w R fun t46 w =>
 cond t46 (oC 165 #[a0, t18, (Z.i 1)] w R fun t50 w =>
 oD 209 #[(0, t18), (4, t50)] w R fun t51 w =>
 oS 209 t2 t51 w R fun _ w =>
 jo ((Instr.loadAt 209 t2).run Tryz.prog w) w fun r0 =>
 R (.returned r0) w)
 (join (upd (mix [34] g2 e2) 45 t46) (fun j3 =>
 oQ true .eql 5 t18 (Z.u 19) w R fun t53 w =>
 cond t53 (j3 (upd (upd (mix [34] g2 e2) 45 t46) 52 t53) w)
 (oQ true .eql 5 t18 (Z.u 5) w R fun t54 w =>
 j3 (upd (upd (upd (mix [34] g2 e2) 45 t46) 52 t53) 52 t54) w)) fun e3 g3 w =>
 cond (g3 52) (oD 209 #[(0, t18)] w R fun t56 w =>
 oS 209 t2 t56 w R fun _ w =>
 jo ((Instr.loadAt 209 t2).run Tryz.prog w) w fun r0 =>
 R (.returned r0) w)
 (oQ true .eql 5 t18 (Z.u 60) w R fun t58 w =>
 cond t58 (oC 166 #[a0] w R fun t60 w =>
 oS 209 t2 t60 w R fun _ w =>
 jo ((Instr.loadAt 209 t2).run Tryz.prog w) w fun r0 =>
 R (.returned r0) w)
 (oQ true .eql 5 t18 (Z.u 8) w R fun t62 w =>
 cond t62 (oC 167 #[a0] w R fun t65 w =>
 oD 209 #[(0, t18), (2, t65)] w R fun t66 w =>
 oS 209 t2 t66 w R fun _ w =>
 jo ((Instr.loadAt 209 t2).run Tryz.prog w) w fun r0 =>
 R (.returned r0) w)
 (oD 206 #[(0, (Z.i 31))] w R fun t67 w =>
 bi ((Instr.makeInterface 206 t67).run Tryz.prog w) R fun t68 w =>
 bi ((Instr.panic t68).run Tryz.prog w) R fun _ w =>
 jo ((Instr.loadAt 209 t2).run Tryz.prog w) w fun r0 =>
 R (.returned r0) w))))))))
theorem abk.calls {R w a0} : abk R w a0 → oX 147 #[a0] w R := Z.k [0,2,3,14,19,20,27,34,45,52,57,61]
def Z8 (a0 : Value) : Prop :=
 oN 24 a0 w R fun t7 w =>
 oP .lss 3 t7 (Z.i 2) w R fun t8 w =>
 cond t8 (R (.returned (.tuple #[(.slice none 0 0), (.slice none 0 0), (Z.i 34)])) w)
 (drawn w fun T w =>
 bJ T w (fun w K => oI 24 a0 (Z.i 0) w aZ K) fun t10 =>
 bJ T w (fun w K => oL 5 t10 w aZ K) fun t11 =>
 bJ T w (fun w K => bi ((convert 5 3 t11).run Tryz.prog w) aZ K) fun t12 =>
 bJ T w (fun w K => oP .shl 3 t12 (.int .u64 8) w aZ K) fun t13 =>
 bJ T w (fun w K => oI 24 a0 (Z.i 1) w aZ K) fun t15 =>
 bJ T w (fun w K => oL 5 t15 w aZ K) fun t16 =>
 bJ T w (fun w K => bi ((convert 5 3 t16).run Tryz.prog w) aZ K) fun t17 =>
 bJ T w (fun w K => oP .or 3 t13 t17 w aZ K) fun t18 =>
 ext w fun w =>
 join (upd (upd (upd (upd (upd (ini [a0]) 2 (.slice none 0 0)) 3 (.slice none 0 0)) 4 (Z.i 0)) 8 t8) 5 t18) (fun j1 =>
 oQ true .eql 3 t18 (Z.i 0) w R fun t20 w =>
 cond t20 (oN 24 a0 w R fun t22 w =>
 j1 (upd (upd (upd (upd (upd (upd (upd (ini [a0]) 2 (.slice none 0 0)) 3 (.slice none 0 0)) 4 (Z.i 0)) 8 t8) 5 t18) 20 t20) 5 t22) w)
 (j1 (upd (upd (upd (upd (upd (upd (ini [a0]) 2 (.slice none 0 0)) 3 (.slice none 0 0)) 4 (Z.i 0)) 8 t8) 5 t18) 20 t20) w)) fun e1 g1 w =>
 oP .lss 3 (g1 5) (Z.i 3) w R fun t24 w =>
 gd t24 false (fun K => K (g1 5) w) w fun t26 w =>
 gd t24 false (fun K => K a0 w) w fun t27 w =>
 gd t24 false (fun K => oN 24 t27 w R K) w fun t28 w =>
 gd t24 false (fun K => oP .gtr 3 t26 t28 w R K) w fun t29 w =>
 pick t24 (.bool true) t29 w fun t30 w =>
 cond t30 (R (.returned (.tuple #[(.slice none 0 0), (.slice none 0 0), (Z.i 34)])) w)
 (drawn w fun T w =>
 bJ T w (fun w K => bi ((Instr.sliceAt 24 a0 (some (Z.i 2)) (some (g1 5)) none).run Tryz.prog w) aZ K) fun t33 =>
 bJ T w (fun w K => bi ((Instr.sliceAt 24 a0 (some (g1 5)) none none).run Tryz.prog w) aZ K) fun t36 =>
 ext w fun w =>
 R (.returned (.tuple #[t33, t36, (Z.i 0)])) w))
theorem Z8.calls {R w a0} : Z8 R w a0 → oX 148 #[a0] w R := Z.k [0,2,3,4,5,8,20,30]
def aag (a0 : Value) : Prop :=
 oA 214 w R fun t2 w =>
 oI 24 a0 (Z.i 0) w R fun t5 w =>
 oL 5 t5 w R fun t6 w =>
 oQ true .eql 5 t6 (Z.u 1) w R fun t8 w =>
 cond t8 (bi ((Instr.sliceAt 24 a0 (some (Z.i 1)) none none).run Tryz.prog w) R fun t10 w =>
 oC 168 #[t10] w R fun t11 w =>
 oE t11 0 w R fun t12 w =>
 oE t11 1 w R fun t13 w =>
 oS 214 t2 t12 w R fun _ w =>
 jo ((Instr.loadAt 214 t2).run Tryz.prog w) w fun r0 =>
 R (.returned (.tuple #[r0, t13])) w)
 (oQ true .eql 5 t6 (Z.u 3) w R fun t15 w =>
 cond t15 (bi ((Instr.sliceAt 24 a0 (some (Z.i 1)) none none).run Tryz.prog w) R fun t17 w =>
 oC 169 #[t17] w R fun t18 w =>
 oE t18 0 w R fun t19 w =>
 oE t18 1 w R fun t20 w =>
 oS 214 t2 t19 w R fun _ w =>
 jo ((Instr.loadAt 214 t2).run Tryz.prog w) w fun r0 =>
 R (.returned (.tuple #[r0, t20])) w)
 (oQ true .eql 5 t6 (Z.u 64) w R fun t22 w =>
 cond t22 (bi ((Instr.sliceAt 24 a0 (some (Z.i 1)) none none).run Tryz.prog w) R fun t24 w =>
 oC 170 #[t24] w R fun t25 w =>
 oE t25 0 w R fun t26 w =>
 oE t25 1 w R fun t27 w =>
 oS 214 t2 t26 w R fun _ w =>
 jo ((Instr.loadAt 214 t2).run Tryz.prog w) w fun r0 =>
 R (.returned (.tuple #[r0, t27])) w)
 (oD 214 #[] w R fun t28 w =>
 oS 214 t2 t28 w R fun _ w =>
 jo ((Instr.loadAt 214 t2).run Tryz.prog w) w fun r0 =>
 R (.returned (.tuple #[r0, (.bool false)])) w)))
theorem aag.calls {R w a0} : aag R w a0 → oX 149 #[a0] w R := Z.k [0,2,3,6,7,14,21]
def abl (a0 a1 a2 : Value) : Prop :=
 oP .lss 3 a2 (Z.i 0) w R fun t14 w =>
 gd t14 false (fun K => K a2 w) w fun t16 w =>
 gd t14 false (fun K => K a0 w) w fun t17 w =>
 gd t14 false (fun K => oC 30 #[t17] w R K) w fun t18 w =>
 gd t14 false (fun K => oP .geq 3 t16 t18 w R K) w fun t19 w =>
 pick t14 (.bool true) t19 w fun t20 w =>
 cond t20 (R (.returned (.tuple #[(Z.i 0), (Z.i 0), (Z.i 32)])) w)
 (oD 229 #[(0, a0), (1, a2)] w R fun t23 w =>
 oB 229 t23 w R fun t24 w =>
 join (upd (upd (upd (upd (upd (ini [a0, a1, a2]) 6 (Z.i 0)) 7 (Z.i 0)) 8 (Z.i 0)) 20 t20) 9 t24) (fun j1 =>
 oN 121 a1 w R fun t26 w =>
 loop (upd (upd (upd (upd (upd (upd (upd (upd (ini [a0, a1, a2]) 6 (Z.i 0)) 7 (Z.i 0)) 8 (Z.i 0)) 20 t20) 9 t24) 25 a1) 26 t26) 27 (Z.i 0)) w fun e2 g2 w j2 =>
 oP .lss 3 (g2 27) t26 w R fun t28 w =>
 cond t28 (oI 121 a1 (g2 27) w R fun t30 w =>
 oL 209 t30 w R fun t31 w =>
 oA 209 w R fun t11 w =>
 oS 209 t11 t31 w R fun _ w =>
 oL 209 t11 w R fun t33 w =>
 oC 171 #[t24, t33] w R fun t34 w =>
 oQ true .neq 25 t34 (Z.i 0) w R fun t36 w =>
 cond t36 (df t24 w fun t38 w =>
 oG 229 t38 1 3 w R fun t40 w =>
 R (.returned (.tuple #[t40, (g2 27), t34])) w)
 (oP .add 3 (g2 27) (Z.i 1) w R fun t43 w =>
 j2 (upd (upd (upd (upd (upd (upd (mix [28,11,10,12,36,6,7,8,27] g2 e2) 28 t28) 11 t11) 10 (g2 27)) 12 t34) 36 t36) 27 t43) w))
 (j1 (upd (mix [28,11,10,12,36,6,7,8,27] g2 e2) 28 t28) w)) fun e1 g1 w =>
 df t24 w fun t45 w =>
 oG 229 t45 1 3 w R fun t47 w =>
 oN 121 a1 w R fun t49 w =>
 R (.returned (.tuple #[t47, t49, (Z.i 0)])) w)
theorem abl.calls {R w a0 a1 a2} : abl R w a0 a1 a2 → oX 150 #[a0, a1, a2] w R := Z.k [0,1,2,6,7,8,9,10,11,12,20,25,26,27,28,36]
def ZX (a0 : Value) : Prop :=
 oP .and 5 a0 (Z.u 2) w R fun t4 w =>
 oQ true .neq 5 t4 (Z.u 0) w R fun t5 w =>
 R (.returned t5) w
theorem ZX.calls {R w a0} : ZX R w a0 → oX 151 #[a0] w R := Z.k [0,2]
def ZW (a0 : Value) : Prop :=
 oP .and 5 a0 (Z.u 4) w R fun t4 w =>
 oQ true .neq 5 t4 (Z.u 0) w R fun t5 w =>
 R (.returned t5) w
theorem ZW.calls {R w a0} : ZW R w a0 → oX 152 #[a0] w R := Z.k [0,2]
def abm (a0 a1 : Value) : Prop :=
 oB 214 a1 w R fun t3 w =>
 oA 66 w R fun t4 w =>
 oG 214 t3 0 5 w R fun t7 w =>
 oQ true .eql 5 t7 (Z.u 1) w R fun t9 w =>
 cond t9 (oG 214 t3 1 5 w R fun t11 w =>
 oD 66 #[(0, t11)] w R fun t12 w =>
 oS 66 t4 t12 w R fun _ w =>
 jo ((Instr.loadAt 66 t4).run Tryz.prog w) w fun r0 =>
 R (.returned r0) w)
 (oQ true .eql 5 t7 (Z.u 3) w R fun t14 w =>
 cond t14 (oG 214 t3 1 5 w R fun t17 w =>
 oC 172 #[t17] w R fun t18 w =>
 oC 82 #[a0, t18] w R fun t19 w =>
 oD 66 #[] w R fun t20 w =>
 oS 66 t4 t20 w R fun _ w =>
 jo ((Instr.loadAt 66 t4).run Tryz.prog w) w fun r0 =>
 R (.returned r0) w)
 (oG 214 t3 2 124 w R fun t23 w =>
 oC 65 #[a0, t23] w R fun t24 w =>
 oA 66 w R fun t5 w =>
 oS 66 t5 t24 w R fun _ w =>
 oF 66 t5 0 w R fun t25 w =>
 oS 5 t25 (Z.u 0) w R fun _ w =>
 oL 66 t5 w R fun t26 w =>
 oS 66 t4 t26 w R fun _ w =>
 jo ((Instr.loadAt 66 t4).run Tryz.prog w) w fun r0 =>
 R (.returned r0) w))
theorem abm.calls {R w a0 a1} : abm R w a0 a1 → oX 153 #[a0, a1] w R := Z.k [0,1,3,4,5,7,8,13]
def aap (a0 : Value) : Prop :=
 oP .geq 5 a0 (Z.u 240) w R fun t4 w =>
 gd t4 true (fun K => K a0 w) w fun t6 w =>
 gd t4 true (fun K => oP .leq 5 t6 (Z.u 249) w R K) w fun t7 w =>
 pick t4 t7 (.bool false) w fun t8 w =>
 R (.returned t8) w
theorem aap.calls {R w a0} : aap R w a0 → oX 155 #[a0] w R := Z.k [0,2]
def abn (a0 a1 a2 a3 : Value) : Prop :=
 bi ((Instr.box 33 a0).run Tryz.prog w) (gz R) fun t4 w =>
 bi ((Instr.box 37 a3).run Tryz.prog w) (gz R) fun t7 w =>
 bi ((Instr.alloc 3 true (.tuple #[])).run Tryz.prog w) (gz R) fun t9 w =>
 uw ((Instr.storeAt 3 t9 (Z.i 0)).run Tryz.prog w) (gz R) fun _ w =>
 join (upd (upd (upd (upd (ini [a0, a1, a2, a3]) 4 t4) 7 t7) 8 (Z.i 0)) 9 t9) (fun j1 =>
 bi ((Instr.loadAt 33 t4).run Tryz.prog w) (gz R) fun t11 w =>
 df t11 w fun t12 w =>
 bi ((Instr.fieldAt 91 t12 0).run Tryz.prog w) (gz R) fun t13 w =>
 bi ((Instr.loadAt 32 t13).run Tryz.prog w) (gz R) fun t14 w =>
 lh Tryz.prog 178 #[t14, a1, a2] w (gz R) fun t17 w =>
 wV Tryz.prog t17 1 w (fun l2 xs2 w mid2 fin2 =>
 mid2 (fun w => drawn w fun T w =>
 bJ T w (fun w K => oL 33 t4 w aZ K) fun t19 =>
 bJ T w (fun w K => df t19 w K) fun t20 =>
 qG T w 91 t20 1 52 fun t22 =>
 bJ T w (fun w K => oL 37 t7 w aZ K) fun t24 =>
 bJ T w (fun w K => oI 52 t22 (xs2.getD 0 undef) w aZ K) fun t25 =>
 ext w fun w =>
 oS 37 t25 t24 w aZ fun _ w =>
 ext w fun w =>
 oL 3 t9 w aZ fun t26 w =>
 oP .add 3 t26 (Z.i 1) w aZ fun t27 w =>
 oS 3 t9 t27 w aZ fun _ w =>
 fin2 .normal w) w)
 (fun D w => j1 (upd (upd (upd (upd (upd (upd (ini [a0, a1, a2, a3]) 4 t4) 7 t7) 8 (Z.i 0)) 9 t9) 17 t17) 1000000 (mkV D undef)) w)
 []) fun e1 g1 w =>
 bi ((Instr.loadAt 3 t9).run Tryz.prog w) (gz R) fun t28 w =>
 mG (yX (g1 1000000)) w fun w => R (.returned t28) w
theorem abn.calls {R w a0 a1 a2 a3} : abn R w a0 a1 a2 a3 → oX 157 #[a0, a1, a2, a3] w R := Z.k [0,1,2,3,4,7,8,9,10,17,18]
def abo (a0 : Value) : Prop :=
 oA 209 w R fun t2 w =>
 df a0 w fun t5 w =>
 oG 204 t5 1 3 w R fun t7 w =>
 join (upd (upd (ini [a0]) 2 t2) 3 t7) (fun j1 =>
 loop (upd (upd (ini [a0]) 2 t2) 3 t7) w fun e2 g2 w j2 =>
 drawn w fun T w =>
 bJ T w (fun w K => df a0 w K) fun t9 =>
 qG T w 204 t9 1 3 fun t11 =>
 bJ T w (fun w K => df a0 w K) fun t13 =>
 qG T w 204 t13 0 24 fun t15 =>
 bJ T w (fun w K => oN 24 t15 w aZ K) fun t16 =>
 bJ T w (fun w K => oP .lss 3 t11 t16 w aZ K) fun t17 =>
 bJ T w (fun w K => gd t17 true (fun K => K a0 w) w K) fun t19 =>
 bJ T w (fun w K => gd t17 true (fun K => df t19 w K) w K) fun t20 =>
 bJ T w (fun w K => gd t17 true (fun K => oF 204 t20 0 w aZ K) w K) fun t21 =>
 bJ T w (fun w K => gd t17 true (fun K => oL 24 t21 w aZ K) w K) fun t22 =>
 bJ T w (fun w K => gd t17 true (fun K => K a0 w) w K) fun t23 =>
 bJ T w (fun w K => gd t17 true (fun K => df t23 w K) w K) fun t24 =>
 bJ T w (fun w K => gd t17 true (fun K => oF 204 t24 1 w aZ K) w K) fun t25 =>
 bJ T w (fun w K => gd t17 true (fun K => oL 3 t25 w aZ K) w K) fun t26 =>
 bJ T w (fun w K => gd t17 true (fun K => oI 24 t22 t26 w aZ K) w K) fun t27 =>
 bJ T w (fun w K => gd t17 true (fun K => oL 5 t27 w aZ K) w K) fun t28 =>
 bJ T w (fun w K => gd t17 true (fun K => oC 115 #[t28] w aZ K) w K) fun t29 =>
 bJ T w (fun w K => pick t17 t29 (.bool false) w K) fun t30 =>
 ext w fun w =>
 cond t30 (df a0 w fun t32 w =>
 oG 204 t32 1 3 w R fun t34 w =>
 oP .add 3 t34 (Z.i 1) w R fun t35 w =>
 df a0 w fun t36 w =>
 oF 204 t36 1 w R fun t37 w =>
 oS 3 t37 t35 w R fun _ w =>
 j2 (upd (mix [30] g2 e2) 30 t30) w)
 (j1 (upd (mix [30] g2 e2) 30 t30) w)) fun e1 g1 w =>
 drawn w fun T w =>
 bJ T w (fun w K => df a0 w K) fun t39 =>
 qG T w 204 t39 0 24 fun t41 =>
 bJ T w (fun w K => df a0 w K) fun t44 =>
 qG T w 204 t44 1 3 fun t46 =>
 bJ T w (fun w K => bi ((Instr.sliceAt 24 t41 (some t7) (some t46) none).run Tryz.prog w) aZ K) fun t47 =>
 ext w fun w =>
 oC 179 #[t47] w R fun t48 w =>
 bJ T w (fun w K => oD 209 #[(0, (Z.u 0)), (5, t48)] w aZ K) fun t49 =>
 ext w fun w =>
 oS 209 t2 t49 w R fun _ w =>
 ext w fun w =>
 jo ((Instr.loadAt 209 t2).run Tryz.prog w) w fun r0 =>
 R (.returned r0) w
theorem abo.calls {R w a0} : abo R w a0 → oX 162 #[a0] w R := Z.k [0,2,3,30]
def abp (a0 : Value) : Prop :=
 join (upd (ini [a0]) 2 (Z.u 0)) (fun j1 =>
 drawn w fun T w =>
 bJ T w (fun w K => df a0 w K) fun t4 =>
 qG T w 204 t4 1 3 fun t6 =>
 bJ T w (fun w K => df a0 w K) fun t8 =>
 qG T w 204 t8 0 24 fun t10 =>
 bJ T w (fun w K => oN 24 t10 w aZ K) fun t11 =>
 bJ T w (fun w K => oP .geq 3 t6 t11 w aZ K) fun t12 =>
 ext w fun w =>
 cond t12 (oD 206 #[(0, (Z.i 20))] w R fun t13 w =>
 bi ((Instr.makeInterface 206 t13).run Tryz.prog w) R fun t14 w =>
 bi ((Instr.panic t14).run Tryz.prog w) R fun _ w =>
 j1 (upd (upd (ini [a0]) 2 (Z.u 0)) 12 t12) w)
 (j1 (upd (upd (ini [a0]) 2 (Z.u 0)) 12 t12) w)) fun e1 g1 w =>
 df a0 w fun t16 w =>
 oG 204 t16 1 3 w R fun t18 w =>
 oP .add 3 t18 (Z.i 1) w R fun t19 w =>
 df a0 w fun t20 w =>
 oF 204 t20 1 w R fun t21 w =>
 oS 3 t21 t19 w R fun _ w =>
 drawn w fun T w =>
 bJ T w (fun w K => df a0 w K) fun t23 =>
 qG T w 204 t23 0 24 fun t25 =>
 bJ T w (fun w K => df a0 w K) fun t27 =>
 qG T w 204 t27 1 3 fun t29 =>
 bJ T w (fun w K => oP .sub 3 t29 (Z.i 1) w aZ K) fun t30 =>
 bJ T w (fun w K => oI 24 t25 t30 w aZ K) fun t31 =>
 bJ T w (fun w K => oL 5 t31 w aZ K) fun t32 =>
 ext w fun w =>
 R (.returned t32) w
theorem abp.calls {R w a0} : abp R w a0 → oX 163 #[a0] w R := Z.k [0,2,12]
def abq (a0 : Value) : Prop :=
 oC 163 #[a0] w R fun t5 w =>
 oC 163 #[a0] w R fun t8 w =>
 oC 138 #[t5, t8] w R fun t9 w =>
 R (.returned t9) w
theorem abq.calls {R w a0} : abq R w a0 → oX 164 #[a0] w R := Z.k [0,2,3]
def abr (a0 a1 a2 : Value) : Prop :=
 join (upd (upd (ini [a0, a1, a2]) 6 (.slice none 0 0)) 7 (.slice none 0 0)) (fun j1 =>
 loop (upd (upd (upd (upd (ini [a0, a1, a2]) 6 (.slice none 0 0)) 7 (.slice none 0 0)) 11 a2) 12 (Z.i 0)) w fun e2 g2 w j2 =>
 oP .lss 3 (g2 12) a2 w R fun t13 w =>
 cond t13 (oC 163 #[a0] w R fun t15 w =>
 oC 163 #[a0] w R fun t18 w =>
 oD 240 #[(0, t15), (1, t18)] w R fun t19 w =>
 oA 240 w R fun t9 w =>
 oS 240 t9 t19 w R fun _ w =>
 join (upd (upd (upd (mix [13,8,9,10,24,7,12] g2 e2) 13 t13) 8 t15) 9 t9) (fun j3 =>
 oL 240 t9 w R fun t21 w =>
 oC 180 #[a1, t21] w R fun t22 w =>
 oQ true .neq 25 t22 (Z.i 0) w R fun t24 w =>
 cond t24 (oD 206 #[(0, t22)] w R fun t26 w =>
 bi ((Instr.makeInterface 206 t26).run Tryz.prog w) R fun t27 w =>
 bi ((Instr.panic t27).run Tryz.prog w) R fun _ w =>
 j3 (upd (upd (upd (upd (upd (mix [13,8,9,10,24,7,12] g2 e2) 13 t13) 8 t15) 9 t9) 10 t22) 24 t24) w)
 (j3 (upd (upd (upd (upd (upd (mix [13,8,9,10,24,7,12] g2 e2) 13 t13) 8 t15) 9 t9) 10 t22) 24 t24) w)) fun e3 g3 w =>
 oL 240 t9 w R fun t29 w =>
 bi ((Instr.buildSlice 207 1 #[(0, t29)]).run Tryz.prog w) R fun t30 w =>
 bi ((Builtin.append_ #[207, 207] 207 #[(g2 7), t30]).run Tryz.prog w) R fun t31 w =>
 oP .add 3 (g2 12) (Z.i 1) w R fun t32 w =>
 j2 (upd (upd (mix [10,24] g3 e3) 7 t31) 12 t32) w)
 (j1 (upd (mix [13,8,9,10,24,7,12] g2 e2) 13 t13) w)) fun e1 g1 w =>
 R (.returned (g1 7)) w
theorem abr.calls {R w a0 a1 a2} : abr R w a0 a1 a2 → oX 165 #[a0, a1, a2] w R := Z.k [0,1,2,6,7,8,9,10,11,12,13,24]
def abt (a0 : Value) : Prop :=
 oA 209 w R fun t2 w =>
 oC 164 #[a0] w R fun t5 w =>
 oC 163 #[a0] w R fun t7 w =>
 oD 209 #[(0, (Z.u 60)), (1, t5), (2, t7)] w R fun t8 w =>
 oA 209 w R fun t3 w =>
 oS 209 t3 t8 w R fun _ w =>
 join (upd (upd (ini [a0]) 2 t2) 3 t3) (fun j1 =>
 oG 209 t3 2 5 w R fun t11 w =>
 oQ true .eql 5 t11 (Z.u 8) w R fun t12 w =>
 cond t12 (oC 167 #[a0] w R fun t14 w =>
 oF 209 t3 3 w R fun t15 w =>
 oS 4 t15 (.bool true) w R fun _ w =>
 oF 209 t3 2 w R fun t16 w =>
 oS 5 t16 t14 w R fun _ w =>
 j1 (upd (upd (upd (ini [a0]) 2 t2) 3 t3) 9 t12) w)
 (oG 209 t3 2 5 w R fun t19 w =>
 oC 115 #[t19] w R fun t20 w =>
 oU t20 w R fun t21 w =>
 cond t21 (oD 206 #[(0, (Z.i 31))] w R fun t22 w =>
 bi ((Instr.makeInterface 206 t22).run Tryz.prog w) R fun t23 w =>
 bi ((Instr.panic t23).run Tryz.prog w) R fun _ w =>
 j1 (upd (upd (upd (upd (ini [a0]) 2 t2) 3 t3) 9 t12) 17 t21) w)
 (j1 (upd (upd (upd (upd (ini [a0]) 2 t2) 3 t3) 9 t12) 17 t21) w))) fun e1 g1 w =>
 oL 209 t3 w R fun t24 w =>
 oS 209 t2 t24 w R fun _ w =>
 jo ((Instr.loadAt 209 t2).run Tryz.prog w) w fun r0 =>
 R (.returned r0) w
theorem abt.calls {R w a0} : abt R w a0 → oX 166 #[a0] w R := Z.k [0,2,3,9,17]
def abu (a0 : Value) : Prop :=
 oC 163 #[a0] w R fun t5 w =>
 join (upd (upd (ini [a0]) 2 (Z.u 0)) 3 t5) (fun j1 =>
 oP .lss 5 t5 (Z.u 64) w R fun t7 w =>
 cond t7 (oD 206 #[(0, (Z.i 31))] w R fun t8 w =>
 bi ((Instr.makeInterface 206 t8).run Tryz.prog w) R fun t9 w =>
 bi ((Instr.panic t9).run Tryz.prog w) R fun _ w =>
 j1 (upd (upd (upd (ini [a0]) 2 (Z.u 0)) 3 t5) 7 t7) w)
 (j1 (upd (upd (upd (ini [a0]) 2 (Z.u 0)) 3 t5) 7 t7) w)) fun e1 g1 w =>
 R (.returned t5) w
theorem abu.calls {R w a0} : abu R w a0 → oX 167 #[a0] w R := Z.k [0,2,3,7]
def aab (a0 : Value) : Prop :=
 oA 214 w R fun t2 w =>
 oN 24 a0 w R fun t6 w =>
 oQ true .neq 3 t6 (Z.i 2) w R fun t7 w =>
 cond t7 (oD 214 #[] w R fun t8 w =>
 oS 214 t2 t8 w R fun _ w =>
 jo ((Instr.loadAt 214 t2).run Tryz.prog w) w fun r0 =>
 R (.returned (.tuple #[r0, (.bool false)])) w)
 (oI 24 a0 (Z.i 1) w R fun t10 w =>
 oL 5 t10 w R fun t11 w =>
 oQ true .eql 5 t11 (Z.u 242) w R fun t12 w =>
 gd t12 false (fun K => K a0 w) w fun t14 w =>
 gd t12 false (fun K => oI 24 t14 (Z.i 1) w R K) w fun t15 w =>
 gd t12 false (fun K => oL 5 t15 w R K) w fun t16 w =>
 gd t12 false (fun K => oQ true .eql 5 t16 (Z.u 246) w R K) w fun t17 w =>
 pick t12 (.bool true) t17 w fun t18 w =>
 gd t18 false (fun K => K a0 w) w fun t20 w =>
 gd t18 false (fun K => oI 24 t20 (Z.i 1) w R K) w fun t21 w =>
 gd t18 false (fun K => oL 5 t21 w R K) w fun t22 w =>
 gd t18 false (fun K => oQ true .eql 5 t22 (Z.u 110) w R K) w fun t23 w =>
 pick t18 (.bool true) t23 w fun t24 w =>
 drawn w fun T w =>
 bJ Ext w (fun w K => oI 24 a0 (Z.i 1) w aZ K) fun t26 =>
 bJ Ext w (fun w K => oL 5 t26 w aZ K) fun t27 =>
 bJ Ext w (fun w K => oD 214 #[(0, (Z.u 1)), (1, t27)] w aZ K) fun t28 =>
 bJ Ext w (fun w K => oI 24 a0 (Z.i 0) w aZ K) fun t30 =>
 bJ Ext w (fun w K => oL 5 t30 w aZ K) fun t31 =>
 bJ Ext w (fun w K => oQ true .eql 5 t31 (Z.u 255) w aZ K) fun t32 =>
 bJ Ext w (fun w K => gd t32 true (fun K => K a0 w) w K) fun t34 =>
 bJ Ext w (fun w K => gd t32 true (fun K => oI 24 t34 (Z.i 1) w aZ K) w K) fun t35 =>
 bJ Ext w (fun w K => gd t32 true (fun K => oL 5 t35 w aZ K) w K) fun t36 =>
 bJ Ext w (fun w K => gd t32 true (fun K => oQ true .eql 5 t36 (Z.u 2) w aZ K) w K) fun t37 =>
 bJ Ext w (fun w K => pick t32 t37 (.bool false) w K) fun t38 =>
 bJ Ext w (fun w K => gd t38 false (fun K => K a0 w) w K) fun t40 =>
 bJ Ext w (fun w K => gd t38 false (fun K => oI 24 t40 (Z.i 0) w aZ K) w K) fun t41 =>
 bJ Ext w (fun w K => gd t38 false (fun K => oL 5 t41 w aZ K) w K) fun t42 =>
 bJ Ext w (fun w K => gd t38 false (fun K => oQ true .eql 5 t42 (Z.u 0) w aZ K) w K) fun t43 =>
 bJ Ext w (fun w K => gd t38 false (fun K => K t43 w) w K) fun t44 =>
 bJ T w (fun w K => gd t44 true (fun K => K t24 w) w K) fun t45 =>
 bJ T w (fun w K => gd t38 false (fun K => pick t44 t45 (.bool false) w K) w K) fun t46 =>
 bJ T w (fun w K => pick t38 (.bool true) t46 w K) fun t47 =>
 ext w fun w =>
 zA T w (fun w K => oS 214 t2 t28 w R K) fun _ w =>
 ext w fun w =>
 jo ((Instr.loadAt 214 t2).run Tryz.prog w) w fun r0 =>
 R (.returned (.tuple #[r0, t47])) w)
theorem aab.calls {R w a0} : aab R w a0 → oX 168 #[a0] w R := Z.k [0,2,3,4,7]
def aad (a0 : Value) : Prop :=
 oA 214 w R fun t2 w =>
 oN 24 a0 w R fun t5 w =>
 oQ true .neq 3 t5 (Z.i 1) w R fun t6 w =>
 gd t6 false (fun K => K a0 w) w fun t8 w =>
 gd t6 false (fun K => oI 24 t8 (Z.i 0) w R K) w fun t9 w =>
 gd t6 false (fun K => oL 5 t9 w R K) w fun t10 w =>
 gd t6 false (fun K => oQ true .neq 5 t10 (Z.u 0) w R K) w fun t11 w =>
 gd t6 false (fun K => K t11 w) w fun t12 w =>
 gd t12 true (fun K => K a0 w) w fun t13 w =>
 gd t12 true (fun K => oI 24 t13 (Z.i 0) w R K) w fun t14 w =>
 gd t12 true (fun K => oL 5 t14 w R K) w fun t15 w =>
 gd t12 true (fun K => oQ true .neq 5 t15 (Z.u 128) w R K) w fun t16 w =>
 gd t6 false (fun K => pick t12 t16 (.bool false) w K) w fun t17 w =>
 pick t6 (.bool true) t17 w fun t18 w =>
 cond t18 (oD 214 #[] w R fun t19 w =>
 oS 214 t2 t19 w R fun _ w =>
 jo ((Instr.loadAt 214 t2).run Tryz.prog w) w fun r0 =>
 R (.returned (.tuple #[r0, (.bool false)])) w)
 (oI 24 a0 (Z.i 0) w R fun t21 w =>
 oL 5 t21 w R fun t22 w =>
 oD 214 #[(0, (Z.u 3)), (1, t22)] w R fun t23 w =>
 oS 214 t2 t23 w R fun _ w =>
 jo ((Instr.loadAt 214 t2).run Tryz.prog w) w fun r0 =>
 R (.returned (.tuple #[r0, (.bool true)])) w)
theorem aad.calls {R w a0} : aad R w a0 → oX 169 #[a0] w R := Z.k [0,2,3,18]
def aae (a0 : Value) : Prop :=
 oA 214 w R fun t2 w =>
 oN 24 a0 w R fun t7 w =>
 oP .lss 3 t7 (Z.i 2) w R fun t8 w =>
 gd t8 false (fun K => K a0 w) w fun t10 w =>
 gd t8 false (fun K => oI 24 t10 (Z.i 0) w R K) w fun t11 w =>
 gd t8 false (fun K => oL 5 t11 w R K) w fun t12 w =>
 gd t8 false (fun K => oQ true .neq 5 t12 (Z.u 0) w R K) w fun t13 w =>
 pick t8 (.bool true) t13 w fun t14 w =>
 cond t14 (oD 214 #[] w R fun t15 w =>
 oS 214 t2 t15 w R fun _ w =>
 jo ((Instr.loadAt 214 t2).run Tryz.prog w) w fun r0 =>
 R (.returned (.tuple #[r0, (.bool false)])) w)
 (bi ((Instr.sliceAt 24 a0 (some (Z.i 1)) none none).run Tryz.prog w) R fun t18 w =>
 oC 64 #[t18] w R fun t19 w =>
 oE t19 0 w R fun t20 w =>
 oE t19 1 w R fun t21 w =>
 oA 124 w R fun t4 w =>
 oS 124 t4 t20 w R fun _ w =>
 drawn w fun T w =>
 bJ Ext w (fun w K => oL 124 t4 w aZ K) fun t22 =>
 bJ Ext w (fun w K => oD 214 #[(0, (Z.u 64)), (2, t22)] w aZ K) fun t23 =>
 bJ Ext w (fun w K => oQ true .eql 25 t21 (Z.i 0) w aZ K) fun t25 =>
 bJ Ext w (fun w K => gd t25 true (fun K => oF 124 t4 0 w aZ K) w K) fun t27 =>
 bJ Ext w (fun w K => gd t25 true (fun K => oL 5 t27 w aZ K) w K) fun t28 =>
 bJ Ext w (fun w K => gd t25 true (fun K => oC 181 #[t28] w aZ K) w K) fun t29 =>
 bJ T w (fun w K => pick t25 t29 (.bool false) w K) fun t30 =>
 ext w fun w =>
 zA T w (fun w K => oS 214 t2 t23 w R K) fun _ w =>
 ext w fun w =>
 jo ((Instr.loadAt 214 t2).run Tryz.prog w) w fun r0 =>
 R (.returned (.tuple #[r0, t30])) w)
theorem aae.calls {R w a0} : aae R w a0 → oX 170 #[a0] w R := Z.k [0,2,3,4,5,14]
def abv (a0 a1 : Value) : Prop :=
 oB 209 a1 w R fun t3 w =>
 join (upd (upd (upd (ini [a0, a1]) 3 t3) 4 (Z.i 0)) 5 .nilFunc) (fun j1 =>
 oG 209 t3 0 5 w R fun t8 w =>
 oQ true .eql 5 t8 (Z.u 0) w R fun t10 w =>
 cond t10 (j1 (upd (upd (upd (upd (upd (upd (ini [a0, a1]) 3 t3) 4 (Z.i 0)) 5 .nilFunc) 8 t8) 9 t10) 5 (.func (.func 182) #[] #[])) w)
 (oQ true .eql 5 t8 (Z.u 8) w R fun t12 w =>
 cond t12 (j1 (upd (upd (upd (upd (upd (upd (upd (ini [a0, a1]) 3 t3) 4 (Z.i 0)) 5 .nilFunc) 8 t8) 9 t10) 11 t12) 5 (.func (.func 183) #[] #[])) w)
 (oQ true .eql 5 t8 (Z.u 17) w R fun t14 w =>
 cond t14 (j1 (upd (upd (upd (upd (upd (upd (upd (upd (ini [a0, a1]) 3 t3) 4 (Z.i 0)) 5 .nilFunc) 8 t8) 9 t10) 11 t12) 13 t14) 5 (.func (.func 184) #[] #[])) w)
 (join (upd (upd (upd (upd (upd (upd (upd (ini [a0, a1]) 3 t3) 4 (Z.i 0)) 5 .nilFunc) 8 t8) 9 t10) 11 t12) 13 t14) (fun j2 =>
 oQ true .eql 5 t8 (Z.u 29) w R fun t16 w =>
 cond t16 (j2 (upd (upd (upd (upd (upd (upd (upd (upd (ini [a0, a1]) 3 t3) 4 (Z.i 0)) 5 .nilFunc) 8 t8) 9 t10) 11 t12) 13 t14) 15 t16) w)
 (oQ true .eql 5 t8 (Z.u 41) w R fun t17 w =>
 j2 (upd (upd (upd (upd (upd (upd (upd (upd (upd (ini [a0, a1]) 3 t3) 4 (Z.i 0)) 5 .nilFunc) 8 t8) 9 t10) 11 t12) 13 t14) 15 t16) 15 t17) w)) fun e2 g2 w =>
 cond (g2 15) (j1 (upd (mix [15] g2 e2) 5 (.func (.func 185) #[] #[])) w)
 (oQ true .eql 5 t8 (Z.u 40) w R fun t19 w =>
 cond t19 (j1 (upd (upd (mix [15] g2 e2) 18 t19) 5 (.func (.func 186) #[] #[])) w)
 (oQ true .eql 5 t8 (Z.u 44) w R fun t21 w =>
 cond t21 (j1 (upd (upd (upd (mix [15] g2 e2) 18 t19) 20 t21) 5 (.func (.func 187) #[] #[])) w)
 (oQ true .eql 5 t8 (Z.u 19) w R fun t23 w =>
 cond t23 (j1 (upd (upd (upd (upd (mix [15] g2 e2) 18 t19) 20 t21) 22 t23) 5 (.func (.func 188) #[] #[])) w)
 (oQ true .eql 5 t8 (Z.u 5) w R fun t25 w =>
 cond t25 (j1 (upd (upd (upd (upd (upd (mix [15] g2 e2) 18 t19) 20 t21) 22 t23) 24 t25) 5 (.func (.func 189) #[] #[])) w)
 (oQ true .eql 5 t8 (Z.u 60) w R fun t27 w =>
 cond t27 (j1 (upd (upd (upd (upd (upd (upd (mix [15] g2 e2) 18 t19) 20 t21) 22 t23) 24 t25) 26 t27) 5 (.func (.func 190) #[] #[])) w)
 (oQ true .eql 5 t8 (Z.u 18) w R fun t29 w =>
 cond t29 (j1 (upd (upd (upd (upd (upd (upd (upd (mix [15] g2 e2) 18 t19) 20 t21) 22 t23) 24 t25) 26 t27) 28 t29) 5 (.func (.func 191) #[] #[])) w)
 (R (.returned (Z.i 31)) w))))))))))) fun e1 g1 w =>
 oL 209 t3 w R fun t32 w =>
 CV Tryz.prog (g1 5) #[a0, t32] w R fun t33 w =>
 oG 209 t3 0 5 w R fun t36 w =>
 oQ true .eql 5 t36 (Z.u 8) w R fun t37 w =>
 gd t37 false (fun K => oF 209 t3 0 w R K) w fun t39 w =>
 gd t37 false (fun K => oL 5 t39 w R K) w fun t40 w =>
 gd t37 false (fun K => oQ true .eql 5 t40 (Z.u 0) w R K) w fun t41 w =>
 gd t37 false (fun K => K t41 w) w fun t42 w =>
 gd t42 true (fun K => oF 209 t3 5 w R K) w fun t43 w =>
 gd t42 true (fun K => oL 24 t43 w R K) w fun t44 w =>
 gd t42 true (fun K => oN 24 t44 w R K) w fun t45 w =>
 gd t42 true (fun K => oP .gtr 3 t45 (Z.i 0) w R K) w fun t46 w =>
 gd t37 false (fun K => pick t42 t46 (.bool false) w K) w fun t47 w =>
 pick t37 (.bool true) t47 w fun t48 w =>
 df a0 w fun t49 w =>
 oF 229 t49 3 w R fun t50 w =>
 oS 4 t50 t48 w R fun _ w =>
 R (.returned t33) w
theorem abv.calls {R w a0 a1} : abv R w a0 a1 → oX 171 #[a0, a1] w R := Z.k [0,1,3,4,5,6,8,9,11,13,15,18,20,22,24,26,28]
def abw (a0 : Value) : Prop :=
 oQ true .eql 5 a0 (Z.u 0) w R fun t4 w =>
 cond t4 (R (.returned (Z.i 0)) w)
 (R (.returned (Z.i 1)) w)
theorem abw.calls {R w a0} : abw R w a0 → oX 172 #[a0] w R := Z.k [0,2,4]
def abx (a0 a1 a2 : Value) : Prop :=
 oB 32 a0 w R fun t3 w =>
 oB 3 a1 w R fun t4 w =>
 oB 3 a2 w R fun t5 w =>
 bi ((Instr.makeFunc (.func 197) #[] #[t3, t4, t5]).run Tryz.prog w) R fun t7 w =>
 R (.returned t7) w
theorem abx.calls {R w a0 a1 a2} : abx R w a0 a1 a2 → oX 178 #[a0, a1, a2] w R := Z.k [0,1,2,3,4,5,6]
def aby (a0 : Value) : Prop :=
 oQ true .eql 24 a0 (.slice none 0 0) w R fun t4 w =>
 cond t4 (R (.returned (.slice none 0 0)) w)
 (bi ((Instr.buildSlice 24 0 #[]).run Tryz.prog w) R fun t5 w =>
 bi ((Builtin.append_ #[24, 24] 24 #[t5, a0]).run Tryz.prog w) R fun t7 w =>
 R (.returned t7) w)
theorem aby.calls {R w a0} : aby R w a0 → oX 179 #[a0] w R := Z.k [0,2,4]
def abz (a0 a1 : Value) : Prop :=
 oB 240 a1 w R fun t3 w =>
 oG 240 t3 0 5 w R fun t7 w =>
 oQ true .eql 5 t7 (Z.u 65) w R fun t8 w =>
 gd t8 false (fun K => oF 240 t3 0 w R K) w fun t10 w =>
 gd t8 false (fun K => oL 5 t10 w R K) w fun t11 w =>
 gd t8 false (fun K => oQ true .eql 5 t11 (Z.u 66) w R K) w fun t12 w =>
 pick t8 (.bool true) t12 w fun t13 w =>
 join (upd (upd (upd (ini [a0, a1]) 3 t3) 4 (Z.i 0)) 5 t13) (fun j1 =>
 join (upd (upd (upd (upd (ini [a0, a1]) 3 t3) 4 (Z.i 0)) 5 t13) 14 a0) (fun j2 =>
 oQ true .eql 5 a0 (Z.u 41) w R fun t16 w =>
 cond t16 (j2 (upd (upd (upd (upd (upd (ini [a0, a1]) 3 t3) 4 (Z.i 0)) 5 t13) 14 a0) 15 t16) w)
 (oQ true .eql 5 a0 (Z.u 44) w R fun t17 w =>
 j2 (upd (upd (upd (upd (upd (upd (ini [a0, a1]) 3 t3) 4 (Z.i 0)) 5 t13) 14 a0) 15 t16) 15 t17) w)) fun e2 g2 w =>
 cond (g2 15) (gd t13 false (fun K => oF 240 t3 0 w R K) w fun t20 w =>
 gd t13 false (fun K => oL 5 t20 w R K) w fun t21 w =>
 gd t13 false (fun K => oQ true .eql 5 t21 (Z.u 192) w R K) w fun t22 w =>
 pick t13 (.bool true) t22 w fun t23 w =>
 cond t23 (R (.returned (Z.i 0)) w)
 (j1 (upd (mix [15] g2 e2) 23 t23) w))
 (oQ true .eql 5 a0 (Z.u 40) w R fun t25 w =>
 cond t25 (gd t13 false (fun K => oF 240 t3 0 w R K) w fun t28 w =>
 gd t13 false (fun K => oL 5 t28 w R K) w fun t29 w =>
 gd t13 false (fun K => oQ true .eql 5 t29 (Z.u 0) w R K) w fun t30 w =>
 gd t13 false (fun K => K t30 w) w fun t31 w =>
 gd t31 true (fun K => oF 240 t3 1 w R K) w fun t32 w =>
 gd t31 true (fun K => oL 5 t32 w R K) w fun t33 w =>
 gd t31 true (fun K => oQ true .eql 5 t33 (Z.u 0) w R K) w fun t34 w =>
 gd t13 false (fun K => pick t31 t34 (.bool false) w K) w fun t35 w =>
 pick t13 (.bool true) t35 w fun t36 w =>
 cond t36 (R (.returned (Z.i 0)) w)
 (j1 (upd (upd (mix [15] g2 e2) 24 t25) 36 t36) w))
 (j1 (upd (mix [15] g2 e2) 24 t25) w))) fun e1 g1 w =>
 R (.returned (Z.i 33)) w
theorem abz.calls {R w a0 a1} : abz R w a0 a1 → oX 180 #[a0, a1] w R := Z.k [0,1,3,4,5,14,15,23,24,36]
def ZV (a0 : Value) : Prop :=
 oC 103 #[a0] w R fun t4 w =>
 gd t4 false (fun K => K a0 w) w fun t6 w =>
 gd t4 false (fun K => oQ true .eql 5 t6 (Z.u 111) w R K) w fun t7 w =>
 pick t4 (.bool true) t7 w fun t8 w =>
 R (.returned t8) w
theorem ZV.calls {R w a0} : ZV R w a0 → oX 181 #[a0] w R := Z.k [0,2]
def abA (a0 a1 : Value) : Prop :=
 oB 209 a1 w R fun t3 w =>
 join (upd (upd (ini [a0, a1]) 3 t3) 4 (Z.i 0)) (fun j1 =>
 oG 209 t3 5 24 w R fun t8 w =>
 oN 24 t8 w R fun t9 w =>
 loop (upd (upd (upd (upd (upd (ini [a0, a1]) 3 t3) 4 (Z.i 0)) 8 t8) 9 t9) 10 (Z.i 0)) w fun e2 g2 w j2 =>
 oP .lss 3 (g2 10) t9 w R fun t11 w =>
 cond t11 (oI 24 t8 (g2 10) w R fun t12 w =>
 oL 5 t12 w R fun t13 w =>
 oC 199 #[a0, t13, (.bool false)] w R fun t17 w =>
 oC 198 #[a0, t17] w R fun t18 w =>
 oP .add 3 (g2 10) (Z.i 1) w R fun t19 w =>
 j2 (upd (upd (upd (mix [11,6,10] g2 e2) 11 t11) 6 t13) 10 t19) w)
 (j1 (upd (mix [11,6,10] g2 e2) 11 t11) w)) fun e1 g1 w =>
 R (.returned (Z.i 0)) w
theorem abA.calls {R w a0 a1} : abA R w a0 a1 → oX 182 #[a0, a1] w R := Z.k [0,1,3,4,6,8,9,10,11]
def abB (a0 a1 : Value) : Prop :=
 oB 209 a1 w R fun t3 w =>
 oG 209 t3 2 5 w R fun t8 w =>
 oC 199 #[a0, t8, (.bool true)] w R fun t9 w =>
 oC 198 #[a0, t9] w R fun t10 w =>
 R (.returned (Z.i 0)) w
theorem abB.calls {R w a0 a1} : abB R w a0 a1 → oX 183 #[a0, a1] w R := Z.k [0,1,3,4]
def abC (a0 a1 : Value) : Prop :=
 oB 209 a1 w R fun t3 w =>
 drawn w fun T w =>
 qG T w 209 t3 1 3 fun t6 =>
 bJ T w (fun w K => oP .lss 3 t6 (Z.i 0) w aZ K) fun t7 =>
 bJ T w (fun w K => gd t7 false (fun K => oF 209 t3 1 w aZ K) w K) fun t9 =>
 bJ T w (fun w K => gd t7 false (fun K => oL 3 t9 w aZ K) w K) fun t10 =>
 bJ T w (fun w K => gd t7 false (fun K => K a0 w) w K) fun t11 =>
 bJ T w (fun w K => gd t7 false (fun K => df t11 w K) w K) fun t12 =>
 bJ T w (fun w K => gd t7 false (fun K => oF 229 t12 0 w aZ K) w K) fun t13 =>
 bJ T w (fun w K => gd t7 false (fun K => oL 33 t13 w aZ K) w K) fun t14 =>
 bJ T w (fun w K => gd t7 false (fun K => oC 30 #[t14] w aZ K) w K) fun t15 =>
 bJ T w (fun w K => gd t7 false (fun K => oP .geq 3 t10 t15 w aZ K) w K) fun t16 =>
 bJ T w (fun w K => pick t7 (.bool true) t16 w K) fun t17 =>
 ext w fun w =>
 cond t17 (R (.returned (Z.i 32)) w)
 (oG 209 t3 1 3 w R fun t20 w =>
 df a0 w fun t21 w =>
 oF 229 t21 1 w R fun t22 w =>
 oS 3 t22 t20 w R fun _ w =>
 R (.returned (Z.i 0)) w)
theorem abC.calls {R w a0 a1} : abC R w a0 a1 → oX 184 #[a0, a1] w R := Z.k [0,1,3,4,17]
def abD (a0 a1 : Value) : Prop :=
 oB 209 a1 w R fun t3 w =>
 oD 37 #[(2, (.bool true))] w R fun t6 w =>
 oA 37 w R fun t5 w =>
 oS 37 t5 t6 w R fun _ w =>
 join (upd (upd (upd (ini [a0, a1]) 3 t3) 4 (Z.i 0)) 5 t5) (fun j1 =>
 oG 209 t3 0 5 w R fun t8 w =>
 oQ true .eql 5 t8 (Z.u 29) w R fun t9 w =>
 cond t9 (oG 209 t3 2 5 w R fun t11 w =>
 oP .and 5 t11 (Z.u 63) w R fun t12 w =>
 oF 37 t5 0 w R fun t13 w =>
 oS 5 t13 t12 w R fun _ w =>
 j1 (upd (upd (upd (upd (ini [a0, a1]) 3 t3) 4 (Z.i 0)) 5 t5) 9 t9) w)
 (oL 37 t5 w R fun t14 w =>
 oG 209 t3 4 207 w R fun t16 w =>
 oC 200 #[t14, t16] w R fun t17 w =>
 oS 37 t5 t17 w R fun _ w =>
 j1 (upd (upd (upd (upd (ini [a0, a1]) 3 t3) 4 (Z.i 0)) 5 t5) 9 t9) w)) fun e1 g1 w =>
 oL 37 t5 w R fun t19 w =>
 oC 198 #[a0, t19] w R fun t20 w =>
 R (.returned (Z.i 0)) w
theorem abD.calls {R w a0 a1} : abD R w a0 a1 → oX 185 #[a0, a1] w R := Z.k [0,1,3,4,5,9]
def abE (a0 a1 : Value) : Prop :=
 oB 209 a1 w R fun t3 w =>
 drawn w fun T w =>
 bJ T w (fun w K => df a0 w K) fun t7 =>
 qG T w 229 t7 2 37 fun t9 =>
 qG T w 209 t3 4 207 fun t11 =>
 bJ T w (fun w K => oC 200 #[t9, t11] w aZ K) fun t12 =>
 bJ T w (fun w K => df a0 w K) fun t13 =>
 bJ T w (fun w K => oF 229 t13 2 w aZ K) fun t14 =>
 ext w fun w =>
 oS 37 t14 t12 w R fun _ w =>
 ext w fun w =>
 R (.returned (Z.i 0)) w
theorem abE.calls {R w a0 a1} : abE R w a0 a1 → oX 186 #[a0, a1] w R := Z.k [0,1,3,4]
def abG (a0 a1 : Value) : Prop :=
 oB 209 a1 w R fun t3 w =>
 drawn w fun T w =>
 bJ T w (fun w K => df a0 w K) fun t7 =>
 qG T w 229 t7 0 33 fun t9 =>
 bJ T w (fun w K => df a0 w K) fun t11 =>
 qG T w 229 t11 1 3 fun t13 =>
 bJ T w (fun w K => oC 31 #[t9, t13] w aZ K) fun t14 =>
 ext w fun w =>
 zA T w (fun w K => oA 37 w R K) fun t5 w =>
 ext w fun w =>
 oS 37 t5 t14 w R fun _ w =>
 ext w fun w =>
 oG 37 t5 2 4 w R fun t16 w =>
 oU t16 w R fun t17 w =>
 cond t17 (R (.returned (Z.i 31)) w)
 (oL 37 t5 w R fun t19 w =>
 oG 209 t3 4 207 w R fun t21 w =>
 oC 200 #[t19, t21] w R fun t22 w =>
 oC 198 #[a0, t22] w R fun t23 w =>
 R (.returned (Z.i 0)) w)
theorem abG.calls {R w a0 a1} : abG R w a0 a1 → oX 187 #[a0, a1] w R := Z.k [0,1,3,4,5,17]
def abH (a0 a1 : Value) : Prop :=
 oB 209 a1 w R fun t3 w =>
 drawn w fun T w =>
 bJ T w (fun w K => df a0 w K) fun t6 =>
 qG T w 229 t6 0 33 fun t8 =>
 bJ T w (fun w K => df a0 w K) fun t10 =>
 qG T w 229 t10 1 3 fun t12 =>
 ext w fun w =>
 oC 36 #[t8, t12] w R fun t13 w =>
 ext w fun w =>
 R (.returned (Z.i 0)) w
theorem abH.calls {R w a0 a1} : abH R w a0 a1 → oX 188 #[a0, a1] w R := Z.k [0,1,4]
def abI (a0 a1 : Value) : Prop :=
 oB 209 a1 w R fun t3 w =>
 join (upd (ini [a0, a1]) 4 (Z.i 0)) (fun j1 =>
 df a0 w fun t8 w =>
 oG 229 t8 3 4 w R fun t10 w =>
 cond t10 (oC 201 #[a0] w R fun t12 w =>
 j1 (upd (upd (ini [a0, a1]) 4 (Z.i 0)) 10 t10) w)
 (j1 (upd (upd (ini [a0, a1]) 4 (Z.i 0)) 10 t10) w)) fun e1 g1 w =>
 join (mix [10] g1 e1) (fun j2 =>
 df a0 w fun t14 w =>
 oG 229 t14 1 3 w R fun t16 w =>
 loop (upd (mix [10] g1 e1) 5 t16) w fun e3 g3 w j3 =>
 df a0 w fun t19 w =>
 oG 229 t19 0 33 w R fun t21 w =>
 oC 30 #[t21] w R fun t22 w =>
 oP .lss 3 (g3 5) t22 w R fun t23 w =>
 cond t23 (df a0 w fun t27 w =>
 oG 229 t27 0 33 w R fun t29 w =>
 oC 31 #[t29, (g3 5)] w R fun t31 w =>
 oA 37 w R fun t6 w =>
 oS 37 t6 t31 w R fun _ w =>
 oG 37 t6 2 4 w R fun t33 w =>
 gd t33 true (fun K => oF 37 t6 0 w R K) w fun t35 w =>
 gd t33 true (fun K => oL 5 t35 w R K) w fun t36 w =>
 gd t33 true (fun K => oC 136 #[t36] w R K) w fun t37 w =>
 gd t33 true (fun K => oU t37 w R K) w fun t38 w =>
 pick t33 t38 (.bool false) w fun t39 w =>
 cond t39 (df a0 w fun t42 w =>
 oG 229 t42 0 33 w R fun t44 w =>
 oC 112 #[t44] w R fun t45 w =>
 oC 111 #[t45, (g3 5), (Z.i 1)] w R fun t47 w =>
 df a0 w fun t48 w =>
 oF 229 t48 1 w R fun t49 w =>
 oS 3 t49 t47 w R fun _ w =>
 R (.returned (Z.i 0)) w)
 (oP .add 3 (g3 5) (Z.i 1) w R fun t25 w =>
 j3 (upd (upd (upd (upd (mix [23,6,39,4,5] g3 e3) 23 t23) 6 t6) 39 t39) 5 t25) w))
 (j2 (upd (mix [23,6,39,4,5] g3 e3) 23 t23) w)) fun e2 g2 w =>
 df a0 w fun t51 w =>
 oF 229 t51 1 w R fun t52 w =>
 oS 3 t52 (Z.i 0) w R fun _ w =>
 R (.returned (Z.i 0)) w
theorem abI.calls {R w a0 a1} : abI R w a0 a1 → oX 189 #[a0, a1] w R := Z.k [0,1,4,5,6,10,23,39]
def abJ (a0 a1 : Value) : Prop :=
 oB 209 a1 w R fun t3 w =>
 df a0 w fun t8 w =>
 oG 229 t8 1 3 w R fun t10 w =>
 oL 209 t3 w R fun t12 w =>
 oC 184 #[a0, t12] w R fun t13 w =>
 oQ true .neq 25 t13 (Z.i 0) w R fun t15 w =>
 cond t15 (R (.returned t13) w)
 (drawn w fun T w =>
 bJ T w (fun w K => df a0 w K) fun t18 =>
 qG T w 229 t18 0 33 fun t20 =>
 bJ T w (fun w K => df a0 w K) fun t23 =>
 qG T w 229 t23 1 3 fun t25 =>
 qG T w 209 t3 2 5 fun t28 =>
 qG T w 209 t3 3 4 fun t30 =>
 bJ T w (fun w K => oC 199 #[a0, t28, t30] w aZ K) fun t31 =>
 ext w fun w =>
 oC 157 #[t20, t10, t25, t31] w R fun t32 w =>
 ext w fun w =>
 R (.returned (Z.i 0)) w)
theorem abJ.calls {R w a0 a1} : abJ R w a0 a1 → oX 190 #[a0, a1] w R := Z.k [0,1,3,4,5,6,15]
def abK (a0 a1 : Value) : Prop :=
 bi ((Instr.box 227 a0).run Tryz.prog w) (gz R) fun t2 w =>
 bi ((Instr.box 209 a1).run Tryz.prog w) (gz R) fun t3 w =>
 bi ((Instr.loadAt 227 t2).run Tryz.prog w) (gz R) fun t8 w =>
 df t8 w fun t9 w =>
 bi ((Instr.fieldAt 229 t9 1).run Tryz.prog w) (gz R) fun t10 w =>
 bi ((Instr.loadAt 3 t10).run Tryz.prog w) (gz R) fun t11 w =>
 bi ((Instr.loadAt 227 t2).run Tryz.prog w) (gz R) fun t12 w =>
 bi ((Instr.loadAt 209 t3).run Tryz.prog w) (gz R) fun t13 w =>
 lh Tryz.prog 184 #[t12, t13] w (gz R) fun t14 w =>
 bi ((qI true .neq 25 t14 (Z.i 0)).run Tryz.prog w) (gz R) fun t16 w =>
 cond t16 (mG (yX undef) w fun w => R (.returned t14) w)
 (join (upd (upd (upd (upd (upd (upd (ini [a0, a1]) 2 t2) 3 t3) 4 (Z.i 0)) 5 t11) 6 t14) 16 t16) (fun j1 =>
 drawn w fun T w =>
 bJ T w (fun w K => oL 227 t2 w aZ K) fun t18 =>
 bJ T w (fun w K => df t18 w K) fun t19 =>
 qG T w 229 t19 0 33 fun t21 =>
 bJ T w (fun w K => oC 112 #[t21] w aZ K) fun t22 =>
 bJ T w (fun w K => oL 227 t2 w aZ K) fun t24 =>
 bJ T w (fun w K => df t24 w K) fun t25 =>
 qG T w 229 t25 1 3 fun t27 =>
 ext w fun w =>
 lh Tryz.prog 178 #[t22, t11, t27] w (gz R) fun t28 w =>
 ext w fun w =>
 wV Tryz.prog t28 1 w (fun l2 xs2 w mid2 fin2 =>
 mid2 (fun w => oL 227 t2 w aZ fun t30 w =>
 df t30 w fun t31 w =>
 oF 229 t31 0 w aZ fun t32 w =>
 oL 33 t32 w aZ fun t33 w =>
 oC 117 #[t33, (xs2.getD 0 undef)] w aZ fun t35 w =>
 cond t35 (oL 227 t2 w aZ fun t36 w =>
 df t36 w fun t37 w =>
 oF 229 t37 0 w aZ fun t38 w =>
 oL 33 t38 w aZ fun t39 w =>
 oD 37 #[] w aZ fun t41 w =>
 oC 14 #[t39, (xs2.getD 0 undef), t41] w aZ fun t42 w =>
 fin2 .normal w)
 (fin2 .normal w)) w)
 (fun D w => j1 (upd (upd (upd (upd (upd (upd (upd (upd (ini [a0, a1]) 2 t2) 3 t3) 4 (Z.i 0)) 5 t11) 6 t14) 16 t16) 28 t28) 1000000 (mkV D undef)) w)
 []) fun e1 g1 w =>
 mG (yX (g1 1000000)) w fun w => R (.returned (Z.i 0)) w)
theorem abK.calls {R w a0 a1} : abK R w a0 a1 → oX 191 #[a0, a1] w R := Z.k [0,1,2,3,4,5,6,7,16,28,29,35]
def abL (a0 a1 a2 a3 : Value) : Prop :=
 oL 32 a1 w R fun t7 w =>
 oC 43 #[t7] w R fun t8 w =>
 oL 3 a2 w R fun t9 w =>
 oP .lss 3 t9 (Z.i 0) w R fun t10 w =>
 gd t10 false (fun K => oL 3 a2 w R K) w fun t12 w =>
 gd t10 false (fun K => K t8 w) w fun t13 w =>
 gd t10 false (fun K => oP .geq 3 t12 t13 w R K) w fun t14 w =>
 pick t10 (.bool true) t14 w fun t15 w =>
 gd t15 false (fun K => oL 3 a3 w R K) w fun t17 w =>
 gd t15 false (fun K => oP .lss 3 t17 (Z.i 0) w R K) w fun t18 w =>
 pick t15 (.bool true) t18 w fun t19 w =>
 gd t19 false (fun K => oL 3 a3 w R K) w fun t21 w =>
 gd t19 false (fun K => K t8 w) w fun t22 w =>
 gd t19 false (fun K => oP .geq 3 t21 t22 w R K) w fun t23 w =>
 pick t19 (.bool true) t23 w fun t24 w =>
 cond t24 (R (.returned (.tuple #[])) w)
 (oL 3 a2 w R fun t25 w =>
 loop (upd (upd (upd (ini [a0, a1, a2, a3]) 5 t8) 24 t24) 6 t25) w fun e1 g1 w j1 =>
 CV Tryz.prog a0 #[(g1 6)] w R fun t28 w =>
 cond t28 (oL 32 a1 w R fun t29 w =>
 oC 111 #[t29, (g1 6), (Z.i 1)] w R fun t31 w =>
 oL 3 a3 w R fun t33 w =>
 oQ false .eql 3 t31 t33 w R fun t34 w =>
 cond t34 (R (.returned (.tuple #[])) w)
 (j1 (upd (upd (upd (mix [28,6,34] g1 e1) 28 t28) 6 t31) 34 t34) w))
 (R (.returned (.tuple #[])) w))
theorem abL.calls {R w a0 a1 a2 a3} : abL R w a0 a1 a2 a3 → oX 197 #[a0, a1, a2, a3] w R := Z.k [0,1,2,3,5,6,24,28,34]
def abM (a0 a1 : Value) : Prop :=
 oB 37 a1 w R fun t3 w =>
 drawn w fun T w =>
 bJ T w (fun w K => df a0 w K) fun t5 =>
 qG T w 229 t5 0 33 fun t7 =>
 bJ T w (fun w K => df a0 w K) fun t9 =>
 qG T w 229 t9 1 3 fun t11 =>
 bJ T w (fun w K => oL 37 t3 w aZ K) fun t12 =>
 ext w fun w =>
 oC 14 #[t7, t11, t12] w R fun t13 w =>
 ext w fun w =>
 oC 204 #[a0] w R fun t15 w =>
 R (.returned (.tuple #[])) w
theorem abM.calls {R w a0 a1} : abM R w a0 a1 → oX 198 #[a0, a1] w R := Z.k [0,1,3]
def abN (a0 a1 a2 : Value) : Prop :=
 oA 37 w R fun t6 w =>
 drawn w fun T w =>
 bJ T w (fun w K => df a0 w K) fun t10 =>
 bJ T w (fun w K => oF 229 t10 2 w aZ K) fun t11 =>
 qG T w 37 t11 3 5 fun t13 =>
 bJ T w (fun w K => df a0 w K) fun t15 =>
 bJ T w (fun w K => oF 229 t15 2 w aZ K) fun t16 =>
 qG T w 37 t16 4 5 fun t18 =>
 bJ T w (fun w K => oD 37 #[(0, a1), (1, a2), (3, t13), (4, t18)] w aZ K) fun t19 =>
 ext w fun w =>
 oS 37 t6 t19 w R fun _ w =>
 ext w fun w =>
 jo ((Instr.loadAt 37 t6).run Tryz.prog w) w fun r0 =>
 R (.returned r0) w
theorem abN.calls {R w a0 a1 a2} : abN R w a0 a1 a2 → oX 199 #[a0, a1, a2] w R := Z.k [0,1,2,6]
def abO (a0 a1 : Value) : Prop :=
 oB 37 a0 w R fun t2 w =>
 oA 37 w R fun t4 w =>
 join (upd (upd (ini [a0, a1]) 2 t2) 4 t4) (fun j1 =>
 oN 207 a1 w R fun t8 w =>
 loop (upd (upd (upd (upd (upd (ini [a0, a1]) 2 t2) 4 t4) 7 a1) 8 t8) 9 (Z.i 0)) w fun e2 g2 w j2 =>
 oP .lss 3 (g2 9) t8 w R fun t10 w =>
 cond t10 (join (upd (mix [10,6,14,15,21,26,31,9] g2 e2) 10 t10) (fun j3 =>
 oI 207 a1 (g2 9) w R fun t11 w =>
 oL 240 t11 w R fun t12 w =>
 oA 240 w R fun t6 w =>
 oS 240 t6 t12 w R fun _ w =>
 oG 240 t6 0 5 w R fun t14 w =>
 oQ true .eql 5 t14 (Z.u 192) w R fun t16 w =>
 cond t16 (oG 240 t6 1 5 w R fun t18 w =>
 oP .and 5 t18 (Z.u 63) w R fun t19 w =>
 oF 37 t2 0 w R fun t20 w =>
 oS 5 t20 t19 w R fun _ w =>
 j3 (upd (upd (upd (upd (mix [10,6,14,15,21,26,31,9] g2 e2) 10 t10) 6 t6) 14 t14) 15 t16) w)
 (oQ true .eql 5 t14 (Z.u 65) w R fun t22 w =>
 cond t22 (oG 240 t6 1 5 w R fun t24 w =>
 oF 37 t2 3 w R fun t25 w =>
 oS 5 t25 t24 w R fun _ w =>
 j3 (upd (upd (upd (upd (upd (mix [10,6,14,15,21,26,31,9] g2 e2) 10 t10) 6 t6) 14 t14) 15 t16) 21 t22) w)
 (oQ true .eql 5 t14 (Z.u 66) w R fun t27 w =>
 cond t27 (oG 240 t6 1 5 w R fun t29 w =>
 oF 37 t2 4 w R fun t30 w =>
 oS 5 t30 t29 w R fun _ w =>
 j3 (upd (upd (upd (upd (upd (upd (mix [10,6,14,15,21,26,31,9] g2 e2) 10 t10) 6 t6) 14 t14) 15 t16) 21 t22) 26 t27) w)
 (oQ true .eql 5 t14 (Z.u 0) w R fun t32 w =>
 cond t32 (oF 37 t2 3 w R fun t33 w =>
 oS 5 t33 (Z.u 0) w R fun _ w =>
 oF 37 t2 4 w R fun t34 w =>
 oS 5 t34 (Z.u 0) w R fun _ w =>
 j3 (upd (upd (upd (upd (upd (upd (upd (mix [10,6,14,15,21,26,31,9] g2 e2) 10 t10) 6 t6) 14 t14) 15 t16) 21 t22) 26 t27) 31 t32) w)
 (j3 (upd (upd (upd (upd (upd (upd (upd (mix [10,6,14,15,21,26,31,9] g2 e2) 10 t10) 6 t6) 14 t14) 15 t16) 21 t22) 26 t27) 31 t32) w))))) fun e3 g3 w =>
 oP .add 3 (g2 9) (Z.i 1) w R fun t35 w =>
 j2 (upd (mix [6,14,15,21,26,31] g3 e3) 9 t35) w)
 (j1 (upd (mix [10,6,14,15,21,26,31,9] g2 e2) 10 t10) w)) fun e1 g1 w =>
 oL 37 t2 w R fun t36 w =>
 oS 37 t4 t36 w R fun _ w =>
 jo ((Instr.loadAt 37 t4).run Tryz.prog w) w fun r0 =>
 R (.returned r0) w
theorem abO.calls {R w a0 a1} : abO R w a0 a1 → oX 200 #[a0, a1] w R := Z.k [0,1,2,4,6,7,8,9,10,14,15,21,26,31]
def abP (a0 : Value) : Prop :=
 df a0 w fun t4 w =>
 oG 229 t4 1 3 w R fun t6 w =>
 loop (upd (ini [a0]) 2 t6) w fun e1 g1 w j1 =>
 df a0 w fun t9 w =>
 oG 229 t9 0 33 w R fun t11 w =>
 oC 30 #[t11] w R fun t12 w =>
 oP .lss 3 (g1 2) t12 w R fun t13 w =>
 gd t13 true (fun K => K a0 w) w fun t15 w =>
 gd t13 true (fun K => df t15 w K) w fun t16 w =>
 gd t13 true (fun K => oF 229 t16 0 w R K) w fun t17 w =>
 gd t13 true (fun K => oL 33 t17 w R K) w fun t18 w =>
 gd t13 true (fun K => K (g1 2) w) w fun t19 w =>
 gd t13 true (fun K => oC 31 #[t18, t19] w R K) w fun t20 w =>
 gd t13 true (fun K => bi ((Instr.field 37 t20 2).run Tryz.prog w) R K) w fun t21 w =>
 gd t13 true (fun K => oU t21 w R K) w fun t22 w =>
 pick t13 t22 (.bool false) w fun t23 w =>
 cond t23 (df a0 w fun t27 w =>
 oG 229 t27 0 33 w R fun t29 w =>
 oD 37 #[] w R fun t31 w =>
 oC 14 #[t29, (g1 2), t31] w R fun t32 w =>
 oP .add 3 (g1 2) (Z.i 1) w R fun t25 w =>
 j1 (upd (upd (mix [23,2] g1 e1) 23 t23) 2 t25) w)
 (R (.returned (.tuple #[])) w)
theorem abP.calls {R w a0} : abP R w a0 → oX 201 #[a0] w R := Z.k [0,2,23]
def abQ (a0 : Value) : Prop :=
 drawn w fun T w =>
 bJ T w (fun w K => df a0 w K) fun t4 =>
 qG T w 229 t4 0 33 fun t6 =>
 bJ T w (fun w K => oC 112 #[t6] w aZ K) fun t7 =>
 bJ T w (fun w K => df a0 w K) fun t9 =>
 qG T w 229 t9 1 3 fun t11 =>
 bJ T w (fun w K => oC 111 #[t7, t11, (Z.i 1)] w aZ K) fun t12 =>
 bJ T w (fun w K => df a0 w K) fun t13 =>
 bJ T w (fun w K => oF 229 t13 1 w aZ K) fun t14 =>
 ext w fun w =>
 oS 3 t14 t12 w R fun _ w =>
 ext w fun w =>
 R (.returned (.tuple #[])) w
theorem abQ.calls {R w a0} : abQ R w a0 → oX 204 #[a0] w R := Z.k [0]
end
end Go.Proofs.YtjdoakbadehicaaGreatDoor
end
section
namespace Gs
def BF : List Int := [0, 1, 2, 3, 156, 9, 134, 127, 151, 141, 142, 11, 12, 13, 14, 15, 16, 17, 18, 19, 157, 133, 8, 135, 24, 25, 146, 143, 28, 29, 30, 31, 128, 129, 130, 131, 132, 10, 23, 27, 136, 137, 138, 139, 140, 5, 6, 7, 144, 145, 22, 147, 148, 149, 150, 4, 152, 153, 154, 155, 20, 21, 158, 26, 32, 160, 226, 228, 224, 225, 227, 229, 231, 241, 162, 46, 60, 40, 43, 124, 38, 233, 234, 235, 232, 237, 238, 239, 236, 223, 33, 36, 42, 41, 59, 172, 45, 47, 194, 196, 192, 193, 195, 197, 199, 209, 166, 44, 37, 95, 62, 63, 248, 201, 202, 203, 200, 205, 206, 207, 204, 96, 58, 35, 64, 39, 61, 34, 216, 97, 98, 99, 100, 101, 102, 103, 104, 105, 171, 187, 240, 253, 254, 177, 176, 106, 107, 108, 109, 110, 111, 112, 113, 114, 170, 186, 230, 184, 198, 164, 181, 126, 115, 116, 117, 118, 119, 120, 121, 122, 161, 191, 208, 221, 222, 174, 94, 163, 165, 183, 169, 167, 182, 188, 189, 190, 91, 93, 175, 168, 180, 215, 123, 65, 66, 67, 68, 69, 70, 71, 72, 73, 173, 244, 246, 242, 243, 245, 125, 74, 75, 76, 77, 78, 79, 80, 81, 82, 185, 251, 252, 249, 250, 255, 92, 247, 83, 84, 85, 86, 87, 88, 89, 90, 178, 212, 214, 210, 211, 213, 48, 49, 50, 51, 52, 53, 54, 55, 56, 57, 179, 219, 220, 217, 218, 159]
def lS (page : Int) : List (Int × Int) :=
 if page = 500 then [(0x4A, 0x5B), (0x4F, 0x21), (0x5A, 0x5D), (0x5F, 0x5E), (0xB0, 0xA2), (0xBA, 0xAC), (0xBB, 0x7C)]
 else if page = 1047 then [(0x5F, 0x5E), (0xAD, 0x5B), (0xB0, 0xAC), (0xBA, 0xDD), (0xBB, 0xA8), (0xBD, 0x5D)]
 else []
def Pz (l : List (Int × Int)) (b : Int) : Int := match l.find? (fun p => p.1 == b) with | some p => p.2 | none => BF.getD b.toNat 0
def sign (page b : Int) : Int := Pz (lS page) b
def H9 (l : List (Int × Int)) : List Int := (List.range 256).map fun i : Nat => Pz l (i : Int)
def tab (page : Int) : List Int := H9 (lS page)
theorem Uc : BF.length = 256 := by decide +kernel
theorem FN (page : Int) : lS page = lS 500 ∨ lS page = lS 1047 ∨ lS page = [] := by
 unfold lS
 split
 ·exact .inl rfl
 ·split
  ·exact .inr (.inl rfl)
  ·exact .inr (.inr rfl)
def aqC (l : List (Int × Int)) : Bool := (List.range l.length).all fun k => match l[k]? with
 | some p => decide (0 ≤ p.1) && decide (p.1 < 256) && decide (0 ≤ p.2) && decide (p.2 < 256) && decide ((H9 (l.take k)).set p.1.toNat p.2 = H9 (l.take (k + 1)))
 | none => false
theorem afz (page : Int) : (lS page).length ≤ 7 := by
 rcases FN page with h | h | h <;> rw [h] <;> decide
theorem aat (page : Int) : aqC (lS page) = true := by
 rcases FN page with h | h | h <;> rw [h] <;> decide +kernel
theorem Vq : BF.all (fun x => decide (0 ≤ x) && decide (x < 256)) = true := by decide +kernel
theorem adf {i : Nat} {x : Int} (h : BF[i]? = some x) : 0 ≤ x ∧ x < 256 := by
 have hl : i < BF.length := (List.getElem?_eq_some_iff.1 h).1
 have := List.all_eq_true.1 Vq x (List.mem_of_getElem? h)
 simpa using this
theorem afA {page : Int} {k : Nat} {p : Int × Int} (h : (lS page)[k]? = some p) :
  0 ≤ p.1 ∧ p.1 < 256 ∧ 0 ≤ p.2 ∧ p.2 < 256 ∧ (H9 ((lS page).take k)).set p.1.toNat p.2 = H9 ((lS page).take (k + 1)) := by
 have hl : k < (lS page).length := (List.getElem?_eq_some_iff.1 h).1
 have := List.all_eq_true.1 (aat page) k (by simpa using hl)
 rw [h] at this
 simp only [Bool.and_eq_true, decide_eq_true_eq] at this
 exact ⟨this.1.1.1.1, this.1.1.1.2, this.1.1.2, this.1.2, this.2⟩
def ndB : List Nat → Nat → Bool
 | [], _ => true
 | x :: xs, m => (match m.testBit x with | true => false | false => ndB xs (m ||| (1 <<< x)))
def ahi (l : List (Int × Int)) : Bool := (H9 l).all (fun x => decide (0 ≤ x) && decide (x < 256)) && ndB ((H9 l).map Int.toNat) 0
theorem X8 (page : Int) : ahi (lS page) = true := by
 rcases FN page with h | h | h <;> rw [h] <;> decide +kernel
theorem adh {page : Int} {x : Int} (h : x ∈ tab page) : 0 ≤ x ∧ x < 256 := by
 have := X8 page
 simp only [ahi, Bool.and_eq_true] at this
 simpa using List.all_eq_true.1 this.1 x h
theorem aau {page b : Int} (h0 : 0 ≤ b) (h1 : b < 256) : 0 ≤ sign page b ∧ sign page b < 256 := by
 apply adh (page := page)
 have : sign page ((b.toNat : Nat) : Int) ∈ tab page := List.mem_map.2 ⟨b.toNat, by simp; omega, rfl⟩
 rw [Int.toNat_of_nonneg h0] at this
 exact this
theorem adg {page b x : Int} (h : (lS page).find? (fun p => p.1 == b) = none) (hx : BF[b.toNat]? = some x) : x = sign page b := by
 simp [sign, Pz, h, List.getD, hx]
theorem adc {page b : Int} {p : Int × Int} (h : (lS page).find? (fun p => p.1 == b) = some p) : p.2 = sign page b := by
 simp [sign, Pz, h]
def value (c : Int) : Int := if 65 ≤ c then c - 55 else c - 48
end Gs
end
section
namespace Gs
structure Cell where
 b : Int
 ge : Bool
 st : Bool
 l : Int
 c : Int
deriving DecidableEq
def zc : Cell := ⟨0, false, false, 0, 0⟩
def cv (x : Cell) : List Go.Value := [.int .u8 x.b, .bool x.ge, .bool x.st, .int .u8 x.l, .int .u8 x.c]
theorem zF : Go.Sh.Enc cv 5 := ⟨fun _ => rfl, fun a u hu => by
 simp only [cv, List.mem_cons, List.mem_nil_iff, or_false] at hu
 rcases hu with rfl | rfl | rfl | rfl | rfl <;> rfl, by decide⟩
def Cw (x : Cell) : Prop := 0 ≤ x.b ∧ x.b ≤ 255
def je (cs : List Cell) : Prop := ∀ x ∈ cs, Cw x
theorem je.get {cs : List Cell} (h : je cs) {i : Nat} {x : Cell} (hx : cs[i]? = some x) : 0 ≤ x.b ∧ x.b ≤ 255 := h x (List.mem_of_getElem? hx)
theorem je.set {cs : List Cell} (h : je cs) {x : Cell} (hx : Cw x) (i : Nat) : je (cs.set i x) := fun y hy => by
 rcases List.mem_or_eq_of_mem_set hy with hy | rfl
 ·exact h y hy
 ·exact hx
theorem je.rep (n : Nat) : je (List.replicate n zc) := fun x hx => by rw [List.eq_of_mem_replicate hx]; exact ⟨by decide, by decide⟩
def aY (r c : Int) : Int := if r < 1 ∨ 43 < r ∨ c < 1 ∨ 132 < c ∨ 4096 < r * c then 0 else r * c
theorem Xo {r c : Int} (h : ¬ r < 1) (h1 : ¬ 43 < r) (h2 : ¬ c < 1) (h3 : ¬ 132 < c) : 1 ≤ r * c ∧ r * c ≤ 5676 := by
 have a1 : 1 * 1 ≤ r * c := Int.mul_le_mul (by omega) (by omega) (by omega) (by omega)
 have a2 : r * c ≤ 43 * 132 := Int.mul_le_mul (by omega) (by omega) (by omega) (by omega)
 omega
theorem Me {r c : Int} (h : r < 1 ∨ 43 < r ∨ c < 1 ∨ 132 < c) : 0 = aY r c := by
 unfold aY; rw [if_pos (by omega)]
theorem akp {r c : Int} (h : ¬ r < 1) (h1 : ¬ 43 < r) (h2 : ¬ c < 1) (h3 : ¬ 132 < c) (h4 : 4096 < Go.IntKind.i64.wrap (r * c)) : 0 = aY r c := by
 have hb := Xo h h1 h2 h3
 rw [Go.Sh.wrap_i64 (by omega) (by omega)] at h4
 unfold aY; rw [if_pos (by omega)]
theorem akq {r c : Int} (h : ¬ r < 1) (h1 : ¬ 43 < r) (h2 : ¬ c < 1) (h3 : ¬ 132 < c) (h4 : ¬ 4096 < Go.IntKind.i64.wrap (r * c)) : Go.IntKind.i64.wrap (r * c) = aY r c := by
 have hb := Xo h h1 h2 h3
 rw [Go.Sh.wrap_i64 (by omega) (by omega)] at h4 ⊢
 unfold aY; rw [if_neg (by omega)]
theorem yM (r c : Int) : 0 ≤ aY r c ∧ aY r c ≤ 4096 := by
 unfold aY
 split
 ·omega
 ·have := Xo (r := r) (c := c) (by omega) (by omega) (by omega) (by omega)
  omega
def iC (cs : List Cell) (at' : Int) (x : Cell) : List Cell := if 0 ≤ at' ∧ at' < cs.length then cs.set at'.toNat x else cs
theorem mg (cs : List Cell) (i : Int) (x : Cell) : (iC cs i x).length = cs.length := by unfold iC; split <;> simp
theorem GG {cs : List Cell} {i : Int} (x : Cell) (h0 : 0 ≤ i) (h1 : i < cs.length) : iC cs i x = cs.set i.toNat x := by unfold iC; rw [if_pos ⟨h0, h1⟩]
theorem NZ {cs : List Cell} {i : Int} (x : Cell) (h : ¬ (0 ≤ i ∧ i < cs.length)) : iC cs i x = cs := by unfold iC; rw [if_neg h]
theorem je.iC {cs : List Cell} (h : je cs) {x : Cell} (hx : Cw x) (i : Int) : je (Gs.iC cs i x) := by
 unfold Gs.iC; split
 ·exact h.set hx _
 ·exact h
def bH (cs : List Cell) (i : Int) : Cell := if 0 ≤ i ∧ i < cs.length then cs.getD i.toNat zc else zc
theorem akr {cs : List Cell} {i : Int} {x : Cell} (h0 : 0 ≤ i) (h : cs[i.toNat]? = some x) : bH cs i = x := by
 have := (List.getElem?_eq_some_iff.1 h).1
 unfold bH; rw [if_pos (by omega)]; simp [List.getD, h]
theorem yJ {cs : List Cell} {i : Int} (h : ¬ (0 ≤ i ∧ i < cs.length)) : bH cs i = zc := by unfold bH; rw [if_neg h]
def EO (n a b : Int) : Int := if n = 0 then 0 else (a + b) % n
theorem MB (x : Int) {n : Int} (h : 0 < n) : -n < x.tmod n ∧ x.tmod n < n := ⟨Int.lt_tmod_of_pos x h, Int.tmod_lt_of_pos x h⟩
theorem KZ (x : Int) {n : Int} (h : 0 < n) : (x.tmod n) % n = x % n := by
 rw [Int.tmod_def]
 have : x - n * x.tdiv n = x + n * (- x.tdiv n) := by rw [Int.mul_neg]; omega
 rw [this]
 simp
theorem aks {n a b : Int} (h : 0 < n) : (((a.tmod n + b.tmod n).tmod n) + n).tmod n = EO n a b := by
 have h1 := MB (a.tmod n + b.tmod n) h
 unfold EO
 rw [if_neg (by omega), Int.tmod_eq_emod_of_nonneg (by omega), Int.add_emod_right, KZ _ h, Int.add_emod, KZ _ h, KZ _ h, ← Int.add_emod]
def oM (n i j : Int) : Nat := if i < 0 ∨ n ≤ i ∨ j < 0 ∨ n ≤ j then 0 else (if j - i ≤ 0 then j - i + n else j - i).toNat
def rH (n i j : Int) : List Int := (List.range (oM n i j)).map fun k : Nat => (i + k) % n
theorem OH (n i j : Int) : (rH n i j).length = oM n i j := by simp [rH]
theorem Zt {n i j : Int} {k : Nat} (h : k < oM n i j) : (rH n i j)[k]? = some ((i + k) % n) := by simp [rH, h]
theorem VR {n i j : Int} {k : Nat} {x : Int} (h : (rH n i j)[k]? = some x) : 0 ≤ x ∧ x < n := by
 have hk := (List.getElem?_eq_some_iff.1 h).1
 rw [OH] at hk
 rw [Zt hk] at h
 have hx : (i + k) % n = x := by simpa using h
 unfold oM at hk
 split at hk
 ·simp at hk
 ·have h1 := Int.emod_nonneg (i + k) (by omega : n ≠ 0)
  have h2 := Int.emod_lt_of_pos (i + k) (by omega : 0 < n)
  omega
theorem akt {r c i j : Int} : (oM (aY r c) i j : Int) ≤ aY r c ∧ aY r c ≤ 4096 := by
 have hb := yM r c
 unfold oM
 split
 ·omega
 ·split <;> omega
def sQ (cs : List Cell) (l : List Int) (x : Cell) : List Cell := l.foldl (fun cs i => cs.set i.toNat x) cs
theorem VK (cs : List Cell) (l : List Int) (x : Cell) : (sQ cs l x).length = cs.length := by
 induction l generalizing cs with
 | nil => rfl
 | cons i l ih => simp only [sQ, List.foldl_cons] at *; rw [ih]; simp
theorem aeC {cs : List Cell} {l : List Int} {x : Cell} {k : Nat} {i : Int} (h : l[k]? = some i) : (sQ cs (l.take k) x).set i.toNat x = sQ cs (l.take (k + 1)) x := by
 rw [List.take_add_one, h]; simp [sQ, List.foldl_append]
theorem je.fill {cs : List Cell} (h : je cs) {x : Cell} (hx : Cw x) (l : List Int) : je (sQ cs l x) := by
 induction l generalizing cs with
 | nil => exact h
 | cons i l ih => exact ih (h.set hx _)
theorem Qi {n i j : Int} (h : i < 0 ∨ n ≤ i ∨ j < 0 ∨ n ≤ j) : oM n i j = 0 := by unfold oM; rw [if_pos h]
theorem Xm {n i j : Int} (h : ¬ (i < 0 ∨ n ≤ i ∨ j < 0 ∨ n ≤ j)) : (oM n i j : Int) = if j - i ≤ 0 then j - i + n else j - i := by
 unfold oM; rw [if_neg h]; split <;> omega
theorem behind {n i : Int} {k : Nat} (h : (k : Int) < n) : ((i + k) % n - i) % n = k := by
 rw [Int.emod_sub_emod, show i + (k : Int) - i = k by omega]
 exact Int.emod_eq_of_lt (by omega) h
theorem amV {n i : Int} {k : Nat} (h : 0 < n) : EO n ((i + k) % n) 1 = (i + (k + 1 : Nat)) % n := by
 unfold EO
 rw [if_neg (by omega), Int.emod_add_emod]
 congr 1
 omega
theorem Xn {n i j : Int} (h : ¬ (i < 0 ∨ n ≤ i ∨ j < 0 ∨ n ≤ j)) {k : Nat} (hk : k < oM n i j) : ((i + (k + 1 : Nat)) % n = j) ↔ k + 1 = oM n i j := by
 have hb := Xm h
 have hl : (oM n i j : Int) ≤ n ∧ 0 < (oM n i j : Int) := by rw [hb]; split <;> omega
 have e1 : j = (i + (oM n i j : Nat)) % n := by
  rw [hb]
  split
  ·rw [show i + (j - i + n) = j + n by omega, Int.add_emod_right, Int.emod_eq_of_lt (by omega) (by omega)]
  ·rw [show i + (j - i) = j by omega, Int.emod_eq_of_lt (by omega) (by omega)]
 constructor
 ·intro he
  have h1 : ((i + (oM n i j : Nat)) - (i + (k + 1 : Nat))) % n = 0 := by rw [Int.sub_emod, ← e1, he]; simp
  rw [show (i + ((oM n i j : Nat) : Int)) - (i + ((k + 1 : Nat) : Int)) = (oM n i j : Nat) - (k + 1 : Nat) by omega, Int.emod_eq_of_lt (by omega) (by omega)] at h1
  omega
 ·intro he
  rw [he]; exact e1.symm
end Gs
end
section
namespace Go.Proofs.YtjdoakbadehicaaGreatDoor
open Go Go.Sh
set_option maxRecDepth 100000
theorem qm {r c : Int} {w : World} :
    oX 43 #[.agg #[Z.i r, Z.i c]] w fun e w' => e = .returned (Z.i (Gs.aY r c)) ∧ aB no w w' := by
 refine F43.calls ?_
 unfold F43
 have hF : aB no w w := Fr.refl _ _ _
 refine Z.x _ (fun b1 w1 e1 ah _ U1 => ?_)
 refine Z.f 0 ?_
 refine Z.l ah ?_
 refine Z.f 1 ?_
 refine Z.l ah ?_
 refine ak (agE _ _ _ _) ?_
 refine Z.f 0 ?_
 refine Z.l ah ?_
 refine az (lss _ _ _ _) (fun h2 => ?_) (fun h2 => ?_)
 refine bg (bg (bg (aU (bg (bg (bg (aU (bg (bg (bg (aU (bg (bg (aU (aK ?_)))))))))))))))
 replace hF := hF.go0 U1
 exact ⟨oO (Gs.Me (by omega)), hF⟩
 refine aW ?_
 refine Z.f 0 ?_
 refine aW ?_
 refine Z.l ah ?_
 refine aW ?_
 refine az (gtr _ _ _ _) (fun h4 => ?_) (fun h4 => ?_)
 refine aQ (bg (bg (bg (aU (bg (bg (bg (aU (bg (bg (aU (aK ?_))))))))))))
 replace hF := hF.go0 U1
 exact ⟨oO (Gs.Me (by omega)), hF⟩
 refine aQ (aW ?_)
 refine Z.f 1 ?_
 refine aW ?_
 refine Z.l ah ?_
 refine aW ?_
 refine az (lss _ _ _ _) (fun h6 => ?_) (fun h6 => ?_)
 refine aQ (bg (bg (bg (aU (bg (bg (aU (aK ?_))))))))
 replace hF := hF.go0 U1
 exact ⟨oO (Gs.Me (by omega)), hF⟩
 refine aQ (aW ?_)
 refine Z.f 1 ?_
 refine aW ?_
 refine Z.l ah ?_
 refine aW ?_
 refine az (gtr _ _ _ _) (fun h8 => ?_) (fun h8 => ?_)
 refine aQ (bg (bg (aU (aK ?_))))
 replace hF := hF.go0 U1
 exact ⟨oO (Gs.Me (by omega)), hF⟩
 refine aQ (aW (aW ?_))
 refine az (gtr _ _ _ _) (fun h10 => ?_) (fun h10 => ?_)
 refine aQ (aK ?_)
 replace hF := hF.go0 U1
 exact ⟨oO (Gs.akp (by assumption) (by assumption) (by assumption) (by assumption) (by assumption)), hF⟩
 refine aQ (aH ?_)
 replace hF := hF.go0 U1
 exact ⟨oO (Gs.akq (by assumption) (by assumption) (by assumption) (by assumption) (by assumption)), hF⟩
theorem FX {r c cur : Int} {A : Option Addr} {n cp bp B0 : Nat} {cs : List Gs.Cell} {w : World} (ag : Z.h w bp #[Z.i r, Z.i c, .slice A n cp, Z.i cur] 91) (ae : Own B0 w 37 5 (.slice A n cp) (rows Gs.cv cs)) (hn : n = cs.length) {i : Int} :
    oX 45 #[Z.p bp, Z.i i] w fun e w' => e = .returned (.bool (decide (0 ≤ i ∧ i < cs.length))) ∧ aB no w w' := by
 refine F45.calls ?_
 unfold F45
 have hF : aB no w w := Fr.refl _ _ _
 refine az (geq _ _ _ _) (fun h1 => ?_) (fun h1 => ?_)
 refine aV (aV (aV ?_))
 refine dB ?_
 refine aV ?_
 refine Z.f 2 ?_
 refine aV ?_
 refine Z.l ag ?_
 refine aV ?_
 refine ak (gK (by kernel_rfl) _ _ _) ?_
 refine aV ?_
 refine ak (lss _ _ _ _) ?_
 refine aU ?_
 exact ⟨Ak (by omega), hF⟩
 refine aP (aP (aP (aP (aP (aP (aP (aQ ?_)))))))
 exact ⟨NU (by omega), hF⟩
theorem fH {r c cur : Int} {A : Option Addr} {n cp bp B0 : Nat} {cs : List Gs.Cell} {w : World} (ag : Z.h w bp #[Z.i r, Z.i c, .slice A n cp, Z.i cur] 91) (ae : Own B0 w 37 5 (.slice A n cp) (rows Gs.cv cs)) (hn : n = cs.length)  :
    oX 30 #[Z.p bp] w fun e w' => e = .returned (Z.i n) ∧ aB no w w' := by
 refine F30.calls ?_
 unfold F30
 have hF : aB no w w := Fr.refl _ _ _
 refine dB ?_
 refine Z.f 2 ?_
 refine Z.l ag ?_
 refine ak (gK (by kernel_rfl) _ _ _) ?_
 exact ⟨rfl, hF⟩
theorem ed {r c cur : Int} {A : Option Addr} {n cp bp B0 : Nat} {cs : List Gs.Cell} {w : World} (ag : Z.h w bp #[Z.i r, Z.i c, .slice A n cp, Z.i cur] 91) (ae : Own B0 w 37 5 (.slice A n cp) (rows Gs.cv cs)) (hn : n = cs.length)  :
    oX 24 #[Z.p bp] w fun e w' => e = .returned (Z.i cur) ∧ aB no w w' := by
 refine F24.calls ?_
 unfold F24
 have hF : aB no w w := Fr.refl _ _ _
 refine dB ?_
 refine Z.f 3 ?_
 refine Z.l ag ?_
 exact ⟨rfl, hF⟩
theorem kP {r c cur : Int} {A : Option Addr} {n cp bp B0 : Nat} {cs : List Gs.Cell} {w : World} (ag : Z.h w bp #[Z.i r, Z.i c, .slice A n cp, Z.i cur] 91) (ae : Own B0 w 37 5 (.slice A n cp) (rows Gs.cv cs)) (hn : n = cs.length)  :
    oX 112 #[Z.p bp] w fun e w' => e = .returned (.agg #[Z.i r, Z.i c]) ∧ aB no w w' := by
 refine aaR.calls ?_
 unfold aaR
 have hF : aB no w w := Fr.refl _ _ _
 refine Z.n (#[Z.i 0, Z.i 0]) (fun b1 w1 e1 ah _ U1 => ?_)
 have bY : w.heap.size ≤ b1 := by have := hF.size; omega
 refine dB ?_
 refine Z.f 0 ?_
 replace ag := U1.af ag
 refine Z.b 2 _ ag ?_
 refine iD (n := 2) (by kernel_rfl) (by rfl) (by (simp [Value.cells, Value.oneCell', Gs.cv]; done)) ah (Nat.le_of_ble_eq_true rfl) (by (simp; rfl)) (fun w2 ah _ U2 => ?_)
 refine Z.a 2 ah ?_
 replace hF := (hF.go0 U1).go1 U2 bY
 exact ⟨rfl, hF⟩
theorem gy {r c cur : Int} {A : Option Addr} {n cp bp B0 : Nat} {cs : List Gs.Cell} {w : World} (ag : Z.h w bp #[Z.i r, Z.i c, .slice A n cp, Z.i cur] 91) (ae : Own B0 w 37 5 (.slice A n cp) (rows Gs.cv cs)) (hn : n = cs.length) {i : Int} :
    oX 31 #[Z.p bp, Z.i i] w fun e w' => e = .returned (.agg (Gs.cv (Gs.bH cs i)).toArray) ∧ aB no w w' := by
 refine F31.calls ?_
 unfold F31
 have hF : aB no w w := Fr.refl _ _ _
 refine Z.n ((Gs.cv Gs.zc).toArray) (fun b1 w1 e1 ah _ U1 => ?_)
 have bY : w.heap.size ≤ b1 := by have := hF.size; omega
 replace ae := ae.ai U1
 replace ag := U1.af ag
 refine eF (FX ag ae hn) (fun w2 U2 h2 => ?_) (fun w2 U2 h2 => ?_)
 simp only [Z.d, Z.c] at h2
 refine ak (jE) ?_
 refine aH ?_
 refine dB ?_
 refine Z.f 2 ?_
 replace ag := U2.af ag
 refine Z.l ag ?_
 replace ae := ae.ai U2
 refine tK Gs.zF (by kernel_rfl) (by kernel_rfl) ae.xW (by assumption) (by omega) (by omega) (fun x3 hx3 => ?_)
 replace ah := U2.af ah
 refine Z.t 5 ((Gs.cv x3).toArray) (by (simp [Value.cells, Value.oneCell', Gs.cv]; done)) ah (fun w4 ah _ U4 => ?_)
 refine Z.a 5 ah ?_
 replace hF := ((hF.go0 U1).go0 U2).go1 U4 bY
 rw [Gs.akr (by omega) hx3]; exact ⟨rfl, hF⟩
 simp only [Z.d, Z.c] at h2
 refine ak (mY) ?_
 refine aK ?_
 refine ak (bF (l := [(0, 1), (1, 1), (2, 1), (3, 1), (4, 1)]) (z := #[Z.u 0, .bool false, .bool false, Z.u 0, Z.u 0]) (cs := (Gs.cv Gs.zc)) (by kernel_rfl) (by rfl)) ?_
 replace ah := U2.af ah
 refine Z.t 5 ((Gs.cv Gs.zc).toArray) (by (simp [Value.cells, Value.oneCell', Gs.cv]; done)) ah (fun w6 ah _ U6 => ?_)
 refine Z.a 5 ah ?_
 replace hF := ((hF.go0 U1).go0 U2).go1 U6 bY
 rw [Gs.yJ (by assumption)]; exact ⟨rfl, hF⟩
theorem jZ {r c cur : Int} {A : Option Addr} {n cp bp B0 : Nat} {cs : List Gs.Cell} {w : World} (ag : Z.h w bp #[Z.i r, Z.i c, .slice A n cp, Z.i cur] 91) (ae : Own B0 w 37 5 (.slice A n cp) (rows Gs.cv cs)) (hn : n = cs.length) {i : Int} {x : Gs.Cell} :
    oX 14 #[Z.p bp, Z.i i, .agg (Gs.cv x).toArray] w fun e w' => ∃ v, e = .returned v ∧ v = .bool (decide (0 ≤ i ∧ i < cs.length)) ∧ Own B0 w' 37 5 (.slice A n cp) (rows Gs.cv (Gs.iC cs i x)) ∧ aB (aG (.slice A n cp)) w w' := by
 refine F14.calls ?_
 unfold F14
 have hF : aB (aG (.slice A n cp)) w w := Fr.refl _ _ _
 refine Z.x ((Gs.cv x).toArray) (fun b1 w1 e1 ah _ U1 => ?_)
 replace ae := ae.ai U1
 replace ag := U1.af ag
 refine eF (FX ag ae hn) (fun w2 U2 h2 => ?_) (fun w2 U2 h2 => ?_)
 simp only [Z.d, Z.c] at h2
 refine ak (jE) ?_
 refine aH ?_
 refine dV (S := no) (fun w3 U3 => ?_)
 refine fM ?_
 refine Z.g 2 ?_
 replace ag := U3.af (U2.af ag)
 refine Z.m ag ?_
 replace ah := U3.af (U2.af ah)
 refine bI (fun w' hw' => by have ah := hw'.af ah; exact (CE (n := 5) (cs' := (Gs.cv x).toArray) (by kernel_rfl) ah (Nat.le_of_ble_eq_true rfl) (by rfl))) ?_
 replace ae := (ae.ai U2).ai U3
 obtain ⟨g4, hg4, _⟩ := ae.at (by rw [iQ Gs.zF]; omega)
 subst hg4
 refine bI (fun w' hw' => (Nr (n := 5) (by kernel_rfl) (by omega) (by omega))) ?_
 refine aJ (fun w5 U5 => ?_)
 replace ae := ae.ai U5
 refine Tq (i := i) Gs.zF (by kernel_rfl) ae (by omega) (by omega) rfl (fun w6 ae _ U6 => ?_)
 replace hF := (((hF.go0 U1).go0 U2).go0 U3).go0 U5
 replace hF := hF.go U6 (fun i h hs => by exact hs)
 refine aJ (fun w7 U7 => ?_)
 replace ae := ae.ai U7
 replace hF := hF.go0 U7
 exact ⟨_, rfl, by rw [decide_eq_true (by omega)], by rw [Gs.GG x (by omega) (by omega)]; exact ae, hF⟩
 simp only [Z.d, Z.c] at h2
 refine ak (mY) ?_
 refine aK ?_
 replace hF := (hF.go0 U1).go0 U2
 replace ae := ae.ai U2
 exact ⟨_, rfl, by rw [decide_eq_false (by assumption)], by rw [Gs.NZ x (by assumption)]; exact ae, hF⟩
theorem vw {r c cur : Int} {A : Option Addr} {n cp bp B0 : Nat} {cs : List Gs.Cell} {w : World} (ag : Z.h w bp #[Z.i r, Z.i c, .slice A n cp, Z.i cur] 91) (ae : Own B0 w 37 5 (.slice A n cp) (rows Gs.cv cs)) (hn : n = cs.length) {i : Int} :
    oX 36 #[Z.p bp, Z.i i] w fun e w' => ∃ v, e = .returned v ∧ v = .bool (decide (0 ≤ i ∧ i < cs.length)) ∧ Z.h w' bp #[Z.i r, Z.i c, .slice A n cp, Z.i (if 0 ≤ i ∧ i < cs.length then i else cur)] 91 ∧ aB (· = bp) w w' := by
 refine F36.calls ?_
 unfold F36
 have hF : aB (· = bp) w w := Fr.refl _ _ _
 refine eF (FX ag ae hn) (fun w1 U1 h1 => ?_) (fun w1 U1 h1 => ?_)
 simp only [Z.d, Z.c] at h1
 refine ak (jE) ?_
 refine aH ?_
 refine dB ?_
 refine Z.f 3 ?_
 replace ag := U1.af ag
 refine Z.s ag (fun w2 ag _ U2 => ?_)
 replace hF := hF.go0 U1
 replace hF := hF.go U2 (fun i _ h => h)
 exact ⟨_, rfl, by rw [decide_eq_true (by omega)], by rw [if_pos (by omega)]; exact ag, hF⟩
 simp only [Z.d, Z.c] at h1
 refine ak (mY) ?_
 refine aK ?_
 replace ag := U1.af ag
 replace hF := hF.go0 U1
 exact ⟨_, rfl, by rw [decide_eq_false (by assumption)], by rw [if_neg (by assumption)]; exact ag, hF⟩
theorem nI {r c i j : Int} {w : World} :
    oX 111 #[.agg #[Z.i r, Z.i c], Z.i i, Z.i j] w fun e w' => e = .returned (Z.i (Gs.EO (Gs.aY r c) i j)) ∧ aB no w w' := by
 refine aaQ.calls ?_
 unfold aaQ
 have hcb := Gs.yM r c
 have hF : aB no w w := Fr.refl _ _ _
 refine Z.x _ (fun b1 w1 e1 ah _ U1 => ?_)
 refine Z.b 2 _ ah ?_
 refine aA (qm) (fun w2 U2 => ?_)
 refine az (dh _ _ _ _ _) (fun h3 => ?_) (fun h3 => ?_)
 refine aK ?_
 replace hF := (hF.go0 U1).go0 U2
 exact ⟨oO (by unfold Gs.EO; rw [if_pos (by omega)]), hF⟩
 refine aH ?_
 refine dV (S := no) (fun w5 U5 => ?_)
 refine bI (fun w' hw' => (Vx _ (by omega) (by omega))) ?_
 refine bI (fun w' hw' => (Vx _ (by omega) (by omega))) ?_
 have m1 := Gs.MB i (show 0 < Gs.aY r c by omega)
 have m2 := Gs.MB j (show 0 < Gs.aY r c by omega)
 refine bI (fun w' hw' => (dJ _ (by omega))) ?_
 refine bI (fun w' hw' => (Vx _ (by omega) (by omega))) ?_
 have m3 := Gs.MB (i.tmod (Gs.aY r c) + j.tmod (Gs.aY r c)) (show 0 < Gs.aY r c by omega)
 refine bI (fun w' hw' => (dJ _ (by omega))) ?_
 refine bI (fun w' hw' => (Vx _ (by omega) (by omega))) ?_
 refine aJ (fun w6 U6 => ?_)
 replace hF := (((hF.go0 U1).go0 U2).go0 U5).go0 U6
 exact ⟨oO (Gs.aks (by omega)), hF⟩
theorem GN {r c i j : Int} {w : World} :
    oX 178 #[.agg #[Z.i r, Z.i c], Z.i i, Z.i j] w fun e w' => ∃ v, e = .returned v ∧ ∃ b3 b4 b5, v = .func (.func 197) #[] #[Z.p b3, Z.p b4, Z.p b5] ∧ w.heap.size ≤ b3 ∧ w.heap.size ≤ b4 ∧ w.heap.size ≤ b5 ∧ Z.h w' b3 #[Z.i r, Z.i c] 32 ∧ Z.h w' b4 #[Z.i i] 3 ∧ Z.h w' b5 #[Z.i j] 3 ∧ aB no w w' := by
 refine abx.calls ?_
 unfold abx
 have hF : aB no w w := Fr.refl _ _ _
 refine Z.x _ (fun b1 w1 e1 ah _ U1 => ?_)
 have bY : w.heap.size ≤ b1 := by have := hF.size; omega
 refine Z.x _ (fun b2 w2 e2 ay _ U2 => ?_)
 replace hF := hF.go0 U1
 have fD : w.heap.size ≤ b2 := by have := hF.size; omega
 refine Z.x _ (fun b3 w3 e3 bG _ U3 => ?_)
 replace hF := hF.go0 U2
 have jH : w.heap.size ≤ b3 := by have := hF.size; omega
 refine ak (mkF _ _ _) ?_
 replace ah := U3.af (U2.af ah)
 replace ay := U3.af ay
 replace hF := hF.go0 U3
 exact ⟨_, rfl, b1, b2, b3, rfl, bY, fD, jH, ah, ay, bG, hF⟩
theorem Eh {r c i j : Int} {b3 b4 b5 : Nat} {y : Value} {J : Nat → World → Prop} {X : World → Prop} {w : World} (hcap : ∀ k w', J k w' → Z.h w' b3 #[Z.i r, Z.i c] 32 ∧ Z.h w' b4 #[Z.i i] 3 ∧ Z.h w' b5 #[Z.i j] 3) (hst : ∀ k w' w'', J k w' → aB no w' w'' → J k w'') (hy : ∀ k w' x, (Gs.rH (Gs.aY r c) i j)[k]? = some x → J k w' → Gy Tryz.prog y #[Z.i x] w' (J (k + 1)) X) (h0 : J 0 w) :
    oX 197 #[y, Z.p b3, Z.p b4, Z.p b5] w fun e w' => (∃ v, e = .returned v) ∧ (J (Gs.rH (Gs.aY r c) i j).length w' ∨ X w') := by
 refine abL.calls ?_
 unfold abL
 have hcb := Gs.yM r c
 rw [Gs.OH]
 obtain ⟨bG, eP, cO⟩ := hcap _ _ h0
 refine Z.b 2 _ bG ?_
 refine aA (qm) (fun w1 U1 => ?_)
 replace h0 := hst _ _ _ h0 U1
 replace eP := U1.af eP
 refine Z.l eP ?_
 refine az (lss _ _ _ _) (fun h2 => ?_) (fun h2 => ?_)
 refine bg (bg (bg (aU (bg (bg (aU (bg (bg (bg (aU (aK ?_)))))))))))
 exact ⟨⟨_, rfl⟩, .inl (by rw [Gs.Qi (by omega)]; exact h0)⟩
 refine aW ?_
 refine Z.l eP ?_
 refine aW (aW ?_)
 refine az (geq _ _ _ _) (fun h4 => ?_) (fun h4 => ?_)
 refine aQ (bg (bg (aU (bg (bg (bg (aU (aK ?_))))))))
 exact ⟨⟨_, rfl⟩, .inl (by rw [Gs.Qi (by omega)]; exact h0)⟩
 refine aQ (aW ?_)
 replace cO := U1.af cO
 refine Z.l cO ?_
 refine aW ?_
 refine az (lss _ _ _ _) (fun h6 => ?_) (fun h6 => ?_)
 refine aQ (bg (bg (bg (aU (aK ?_)))))
 exact ⟨⟨_, rfl⟩, .inl (by rw [Gs.Qi (by omega)]; exact h0)⟩
 refine aQ (aW ?_)
 refine Z.l cO ?_
 refine aW (aW ?_)
 refine az (geq _ _ _ _) (fun h8 => ?_) (fun h8 => ?_)
 refine aQ (aK ?_)
 exact ⟨⟨_, rfl⟩, .inl (by rw [Gs.Qi (by omega)]; exact h0)⟩
 refine aQ (aH ?_)
 refine Z.l eP ?_
 refine eG (fun g w' => ∃ k : Nat, k < Gs.oM (Gs.aY r c) i j ∧ g 6 = Z.i ((i + k) % Gs.aY r c) ∧ J k w') (fun g w' => Gs.oM (Gs.aY r c) i j - ((RowKit.intOf (g 6) - i) % Gs.aY r c).toNat) ?_ (fun g1 wl1 hI => ?_)
 have hb := Gs.Xm (n := Gs.aY r c) (i := i) (j := j) (by omega)
 exact ⟨0, by split at hb <;> omega, by show Value.int _ _ = _; rw [Int.emod_eq_of_lt (by omega) (by omega)]; simp, h0⟩
 obtain ⟨k, hk, g6, hJ⟩ := hI
 rw [g6]
 have hb1 := Gs.Xm (n := Gs.aY r c) (i := i) (j := j) (by omega)
 have hkn : (k : Int) + 1 ≤ Gs.aY r c := by split at hb1 <;> omega
 refine Ig (hy k _ _ (Gs.Zt hk) hJ) (fun wy10 hJ2 => ?_) (fun wy10 hX => ?_)
 replace bG := U1.af bG
 obtain ⟨bG, eP, cO⟩ := hcap _ _ hJ2
 refine aK ?_
 refine Z.b 2 _ bG ?_
 refine aA (nI) (fun nT bD => ?_)
 replace hJ2 := hst _ _ _ hJ2 bD
 rw [Gs.amV (by omega)]
 replace cO := bD.af cO
 refine Z.l cO ?_
 refine az (dh _ _ _ _ _) (fun h12 => ?_) (fun h12 => ?_)
 refine aK ?_
 exact ⟨⟨_, rfl⟩, .inl (by rw [← (Gs.Xn (n := Gs.aY r c) (i := i) (j := j) (by omega) hk).1 (by assumption)]; exact hJ2)⟩
 refine aH ?_
 have he := Gs.Xn (n := Gs.aY r c) (i := i) (j := j) (by omega) hk
 have hk1 : k + 1 < Gs.oM (Gs.aY r c) i j := by by_cases hq : k + 1 = Gs.oM (Gs.aY r c) i j; exact absurd (he.2 hq) (by assumption); omega
 refine ⟨⟨k + 1, hk1, rfl, hJ2⟩, ?_⟩
 have m1 := Gs.behind (n := Gs.aY r c) (i := i) (k := k) (by omega)
 have m2 := Gs.behind (n := Gs.aY r c) (i := i) (k := k + 1) (by split at hb1 <;> omega)
 show Gs.oM _ _ _ - ((RowKit.intOf (Value.int _ _) - i) % _).toNat < Gs.oM _ _ _ - ((RowKit.intOf (Value.int _ _) - i) % _).toNat
 simp only [RowKit.intOf]
 rw [m1, m2]
 omega
 refine aH ?_
 exact ⟨⟨_, rfl⟩, .inr hX⟩
theorem wZ {r c : Int} {w : World} (hz : (Gs.aY r c) ≠ 0) :
    oX 33 #[.agg #[Z.i r, Z.i c]] w fun e w' => ∃ v, e = .returned v ∧ ∃ bp g, v = .tuple #[Z.p bp, Z.i 0] ∧ w.heap.size ≤ bp ∧ Z.h w' bp #[Z.i r, Z.i c, .slice (some ⟨g, 0, none⟩) (Gs.aY r c).toNat (Gs.aY r c).toNat, Z.i 0] 91 ∧ Own w.heap.size w' 37 5 (.slice (some ⟨g, 0, none⟩) (Gs.aY r c).toNat (Gs.aY r c).toNat) (rows Gs.cv (List.replicate (Gs.aY r c).toNat Gs.zc)) ∧ aB no w w' := by
 refine F33.calls ?_
 unfold F33
 have hcb := Gs.yM r c
 have hF : aB no w w := Fr.refl _ _ _
 refine Z.x _ (fun b1 w1 e1 ah _ U1 => ?_)
 have bY : w.heap.size ≤ b1 := by have := hF.size; omega
 replace hF := hF.go0 U1
 refine Z.b 2 _ ah ?_
 refine aA (qm) (fun w2 U2 => ?_)
 replace ah := U2.af ah
 replace hF := hF.go0 U2
 refine jQ (dh _ _ _ _ _) (hz) ?_
 refine aH ?_
 refine dV (S := no) (fun w3 U3 => ?_)
 replace ah := U3.af ah
 replace hF := hF.go0 U3
 refine bI (fun w' hw' => by have ah := hw'.af ah; exact (CE (n := 2) (by kernel_rfl) ah (Nat.le_of_ble_eq_true rfl) (by rfl))) ?_
 refine aJ (fun w4 U4 => ?_)
 replace ah := U4.af ah
 replace hF := hF.go0 U4
 refine jy ?_
 refine agG (e := 37) (bytes := 5) (z := Gs.zc) Gs.zF (by kernel_rfl) (by kernel_rfl) (by omega) (by omega) (fun b5 w5 e5 zO _ U5 => ?_)
 have ik : b1 ≠ b5 := by have := aj ah; omega
 have iM : w.heap.size ≤ b5 := by have := hF.size; omega
 replace zO := zO.mono (B' := w.heap.size) (by have := hF.size; omega)
 replace ah := U5.af ah
 replace hF := hF.go0 U5
 refine ⟨U5, ?_⟩
 refine bI (fun w' hw' => (bF (l := [(0, 2), (2, 1), (3, 1)]) (z := #[Z.i 0, Z.i 0, .slice none 0 0, Z.i 0]) (by kernel_rfl) (by (simp [eH, splice, fO, Value.cells]; rfl)))) ?_
 refine aJ (fun w6 U6 => ?_)
 replace zO := zO.ai U6
 replace ah := U6.af ah
 replace hF := hF.go0 U6
 refine Z.x _ (fun b7 w7 e7 kT _ U7 => ?_)
 have HY : b1 ≠ b7 := by have := aj ah; omega
 have amW := zO.apart e7
 have ul : w.heap.size ≤ b7 := by have := hF.size; omega
 replace zO := zO.ai U7
 replace ah := U7.af ah
 replace hF := hF.go0 U7
 refine aJ (fun w8 U8 => ?_)
 replace zO := zO.ai U8
 replace ah := U8.af ah
 replace kT := U8.af kT
 replace hF := hF.go0 U8
 exact ⟨_, rfl, _, _, rfl, by assumption, by assumption, by assumption, hF⟩
theorem J9 {r c cur : Int} {A : Option Addr} {n cp bp B0 : Nat} {cs : List Gs.Cell} {w : World} (ag : Z.h w bp #[Z.i r, Z.i c, .slice A n cp, Z.i cur] 91) (ae : Own B0 w 37 5 (.slice A n cp) (rows Gs.cv cs)) (hn : n = cs.length) {i j : Int} {x : Gs.Cell} (hN : Gs.aY r c = n) :
    oX 157 #[Z.p bp, Z.i i, Z.i j, .agg (Gs.cv x).toArray] w fun e w' => ∃ v, e = .returned v ∧ v = Z.i ((Gs.rH (Gs.aY r c) i j).length : Nat) ∧ Own B0 w' 37 5 (.slice A n cp) (rows Gs.cv (Gs.sQ cs (Gs.rH (Gs.aY r c) i j) x)) ∧ aB (aG (.slice A n cp)) w w' := by
 refine abn.calls ?_
 unfold abn
 have hF : aB (aG (.slice A n cp)) w w := Fr.refl _ _ _
 refine Z.x _ (fun b1 w1 e1 ah _ U1 => ?_)
 have gZ := ae.apart e1
 refine Z.x ((Gs.cv x).toArray) (fun b2 w2 e2 ay _ U2 => ?_)
 replace ae := ae.ai U1
 have dN := ae.apart e2
 refine Z.n (#[Z.i 0]) (fun b3 w3 e3 bG _ U3 => ?_)
 replace ag := U2.af (U1.af ag)
 have lm : bp ≠ b3 := by have := aj ag; omega
 replace ae := ae.ai U2
 have iO := ae.apart e3
 replace ah := U2.af ah
 have mi : b1 ≠ b3 := by have := aj ah; omega
 have qK : b2 ≠ b3 := by have := aj ay; omega
 replace hF := (hF.go0 U1).go0 U2
 have jH : w.heap.size ≤ b3 := by have := hF.size; omega
 refine Z.s bG (fun w4 bG _ U4 => ?_)
 refine bQ (fun g w' => ∃ (D2 : Nat), (g 1000000 = mkV D2 undef) ∧ (w.heap.size ≤ D2) ∧ (w'.heap[D2]? = some (.deferred (some []))) ∧ (Own B0 w' 37 5 (.slice A n cp) (rows Gs.cv (Gs.sQ cs (Gs.rH (Gs.aY r c) i j) x))) ∧ (Z.h w' b3 #[Z.i ((Gs.rH (Gs.aY r c) i j).length : Nat)] 3) ∧ (aB (aG (.slice A n cp)) w w')) (fun J1 hJ1 => ?_) (fun gJ1 jY hI => ?_)
 replace ah := U4.au (U3.af ah) mi
 refine Z.l ah ?_
 refine dB ?_
 refine Z.f 0 ?_
 replace ag := U4.au (U3.af ag) lm
 refine Z.b 2 _ ag ?_
 refine aI (GN) (fun v5 w5 D5 => ?_)
 obtain ⟨b3_17, b4_17, b5_17, rfl, g3_17, g4_17, g5_17, nZ, og, oh, U5⟩ := D5
 replace ae := (ae.ai U3).aF U4 iO
 have Ru : ∀ k, aG _ k → k ≠ b3_17 := fun k hk => by have := (Own.ge ae hk).2; omega
 have Yu : b3 ≠ b3_17 := by have := aj bG; omega
 have Rw : ∀ k, aG _ k → k ≠ b4_17 := fun k hk => by have := (Own.ge ae hk).2; omega
 have Yv : b3 ≠ b4_17 := by have := aj bG; omega
 have Rx : ∀ k, aG _ k → k ≠ b5_17 := fun k hk => by have := (Own.ge ae hk).2; omega
 have Yw : b3 ≠ b5_17 := by have := aj bG; omega
 refine wL (by kernel_rfl) (fun w6 l2 D2 Rdy2 Bsy2 Dn2 y2 eD el bz bC lp1 lp2 lp3 sz6 U6 hY => ?_)
 have lp2_2 := lp2
 replace ag := U5.af ag
 have iL : bp ≠ l2 := by have := aj ag; omega
 replace ae := ae.ai U5
 have ug : ∀ k, aG _ k → k ≠ D2 := fun k hk => by have := (Own.ge ae hk).2; omega
 have fB : ∀ k, aG _ k → k ≠ l2 := fun k hk => by have := (Own.ge ae hk).2; omega
 replace ah := U5.af ah
 have iR : b1 ≠ l2 := by have := aj ah; omega
 replace ay := U5.af (U4.au (U3.af ay) qK)
 have gU : b2 ≠ l2 := by have := aj ay; omega
 replace bG := U5.af bG
 have agH : b3 ≠ D2 := by have := aj bG; omega
 have IV : b3 ≠ l2 := by have := aj bG; omega
 have Ns : b3_17 ≠ l2 := by have := aj nZ; omega
 have Nu : b4_17 ≠ l2 := by have := aj og; omega
 have Nv : b5_17 ≠ l2 := by have := aj oh; omega
 replace hF := ((hF.go0 U3).go1 U4 jH).go0 U5
 have oK : w.heap.size ≤ D2 := by have := hF.size; omega
 have jR : w.heap.size ≤ l2 := by have := hF.size; omega
 have fK : D2 ≠ l2 := by omega
 replace ae := ae.ai U6
 replace ag := U6.af ag
 replace ah := U6.af ah
 replace ay := U6.af ay
 replace bG := U6.af bG
 replace nZ := U6.af nZ
 replace og := U6.af og
 replace oh := U6.af oh
 replace hF := hF.go0 U6
 refine Calls.mono (Eh (b3 := b3_17) (b4 := b4_17) (b5 := b5_17) (J := (fun (k : Nat) (w' : World) => (Z.h w' bp #[Z.i r, Z.i c, .slice A n cp, Z.i cur] 91) ∧ (Own B0 w' 37 5 (.slice A n cp) (rows Gs.cv (Gs.sQ cs ((Gs.rH (Gs.aY r c) i j).take k) x))) ∧ (Z.h w' b1 #[Z.p bp] 33) ∧ (Z.h w' b2 ((Gs.cv x).toArray) 37) ∧ (Z.h w' b3 #[Z.i (k : Nat)] 3) ∧ (Z.h w' b3_17 #[Z.i r, Z.i c] 32) ∧ (Z.h w' b4_17 #[Z.i i] 3) ∧ (Z.h w' b5_17 #[Z.i j] 3) ∧ (w'.heap[D2]? = some (.deferred (some []))) ∧ (w'.heap[l2]? = some Rdy2) ∧ (aB (aG (.slice A n cp)) w w'))) (X := (fun _ => False)) (fun _ w' hJ => by obtain ⟨ag, ae, ah, ay, bG, nZ, og, oh, bz, bC, hF⟩ := hJ; exact ⟨nZ, og, oh⟩) (fun _ w' w'' hJ U' => by obtain ⟨ag, ae, ah, ay, bG, nZ, og, oh, bz, bC, hF⟩ := hJ; exact ⟨U'.af ag, ae.ai U', U'.af ah, U'.af ay, U'.af bG, U'.af nZ, U'.af og, U'.af oh, U'.af bz, U'.af bC, hF.go0 U'⟩) ?_ ?_) ?_
 intro k qW xk hx hI
 obtain ⟨ag, ae, ah, ay, bG, nZ, og, oh, bz, bC, hF⟩ := hI
 have bx := Gs.VR hx
 have hk := (List.getElem?_eq_some_iff.1 hx).1
 have hle := Gs.akt (r := r) (c := c) (i := i) (j := j)
 have hfl := Gs.VK cs ((Gs.rH (Gs.aY r c) i j).take k) x
 have hbl := Gs.OH (Gs.aY r c) i j
 refine hY [Z.i xk] _ _ rfl bC ?_
 simp only [List.getD_cons_zero, List.getD_cons_succ]
 refine zu bC (fun w7 bC _ U7 => ?_)
 refine dV (S := no) (fun w8 U8 => ?_)
 replace ah := U8.af (U7.au ah iR)
 refine Z.m ah ?_
 refine fM ?_
 refine Z.g 2 ?_
 replace ag := U8.af (U7.au ag iL)
 refine Z.m ag ?_
 replace ay := U8.af (U7.au ay gU)
 refine bI (fun w' hw' => by have ay := hw'.af ay; exact (CE (n := 5) (cs' := (Gs.cv x).toArray) (by kernel_rfl) ay (Nat.le_of_ble_eq_true rfl) (by rfl))) ?_
 replace ae := (ae.aF U7 fB).ai U8
 obtain ⟨g9, hg9, _⟩ := ae.at (by rw [iQ Gs.zF]; omega)
 subst hg9
 refine bI (fun w' hw' => (Nr (n := 5) (by kernel_rfl) (by omega) (by omega))) ?_
 refine aJ (fun w10 aX => ?_)
 replace ae := ae.ai aX
 refine Tq (i := xk) Gs.zF (by kernel_rfl) ae (by omega) (by omega) rfl (fun nT N11 _ bD => ?_)
 have aN := ae
 replace ag := aX.af ag
 replace ag := bD.get ag (fun h => Own.aT aN ag (by decide) _ h rfl)
 replace ae := N11
 replace ah := aX.af ah
 replace ah := bD.get ah (fun h => gZ _ h rfl)
 replace ay := aX.af ay
 replace ay := bD.get ay (fun h => dN _ h rfl)
 replace bG := aX.af (U8.af (U7.au bG IV))
 replace bG := bD.get bG (fun h => iO _ h rfl)
 replace nZ := aX.af (U8.af (U7.au nZ Ns))
 replace nZ := bD.get nZ (fun h => Ru _ h rfl)
 replace og := aX.af (U8.af (U7.au og Nu))
 replace og := bD.get og (fun h => Rw _ h rfl)
 replace oh := aX.af (U8.af (U7.au oh Nv))
 replace oh := bD.get oh (fun h => Rx _ h rfl)
 replace bz := aX.af (U8.af (U7.au bz fK))
 replace bz := bD.get bz (fun h => ug _ h rfl)
 replace bC := aX.af (U8.af bC)
 replace bC := bD.get bC (fun h => fB _ h rfl)
 replace hF := ((hF.go1 U7 jR).go0 U8).go0 aX
 replace hF := hF.go bD (fun i h hs => by exact hs)
 clear aN
 refine aJ (fun w12 bW => ?_)
 replace bG := bW.af bG
 refine Z.l bG ?_
 refine ak (dJ _ (by omega)) ?_
 refine Z.s bG (fun ve bG _ dC => ?_)
 replace bC := dC.au (bW.af bC) (Ne.symm IV)
 refine uO bC (fun rF bC _ bZ => ?_)
 replace ae := ((ae.ai bW).aF dC iO).aF bZ fB
 replace ag := bZ.au (dC.au (bW.af ag) lm) iL
 replace ah := bZ.au (dC.au (bW.af ah) mi) iR
 replace ay := bZ.au (dC.au (bW.af ay) qK) gU
 replace nZ := bZ.au (dC.au (bW.af nZ) (Ne.symm Yu)) Ns
 replace og := bZ.au (dC.au (bW.af og) (Ne.symm Yv)) Nu
 replace oh := bZ.au (dC.au (bW.af oh) (Ne.symm Yw)) Nv
 replace bz := bZ.au (dC.au (bW.af bz) (Ne.symm agH)) fK
 replace hF := ((hF.go0 bW).go1 dC jH).go1 bZ jR
 replace bG := bZ.au bG IV
 exact ⟨ag, (by rw [← Gs.aeC hx]; exact ae), ah, ay, (by simpa using bG), nZ, og, oh, bz, bC, hF⟩
 exact ⟨ag, (by simpa [Gs.sQ] using ae), ah, ay, bG, nZ, og, oh, bz, bC, hF⟩
 rintro e wE2 ⟨hv, hI | hI⟩
 obtain ⟨ag, ae, ah, ay, bG, nZ, og, oh, bz, bC, hF⟩ := hI
 refine ⟨hv, .inl ⟨bC, fun ut _ bT => ?_⟩⟩
 refine hJ1 _ _ ?_
 replace ae := ae.aF bT fB
 replace bG := bT.au bG IV
 replace bz := bT.au bz fK
 replace hF := hF.go1 bT jR
 exact ⟨_, (by rfl), oK, bz, (by rw [List.take_of_length_le (Nat.le_refl _)] at ae; exact ae), bG, hF⟩
 exact hI.elim
 replace ae := (ae.ai U3).aF U4 iO
 replace hF := (hF.go0 U3).go1 U4 jH
 obtain ⟨D2, g1000000, oK, bz, ae, bG, hF⟩ := hI
 rw [g1000000]
 refine Z.l bG ?_
 refine leave1 bz (fun vW _ di => ?_)
 replace ae := ae.aF di (Own.lV ae (by assumption))
 replace hF := hF.go1 di oK
 exact ⟨_, rfl, rfl, ae, hF⟩
end Go.Proofs.YtjdoakbadehicaaGreatDoor
end
section
namespace Gs
open Go
def seen (b : Int) : Bool := decide (64 ≤ b ∧ b ≤ 254)
theorem encode_le (r : Int) : (Lib.encodeRune r).length ≤ 4 := by
 have := Lib.encodeRuneZ_length r
 simp [Lib.encodeRune]; omega
def bof (page r : Int) : Option Nat := (List.range 256).find? fun b : Nat => seen b && sign page b == r
def enc (page : Int) : List Int → Option (List Int)
 | [] => some []
 | r :: rs => match bof page r, enc page rs with | some b, some l => some ((b : Int) :: l) | _, _ => none
end Gs
end
section
namespace Gs
open Go
def vZ (page : Int) (x : Cell) : Int := if x.st = true then 32 else if x.ge = true then 57344 + x.b else if 64 ≤ x.b ∧ x.b ≤ 254 then sign page x.b else 32
theorem Wu {page : Int} {x : Cell} (h : x.st = true) : vZ page x = 32 := by unfold vZ; rw [if_pos h]
theorem V8 {page : Int} {x : Cell} (h : ¬ x.st = true) (h2 : x.ge = true) : vZ page x = 57344 + x.b := by unfold vZ; rw [if_neg h, if_pos h2]
theorem afN {page : Int} {x : Cell} (h : ¬ x.st = true) (h2 : ¬ x.ge = true) (h3 : 64 ≤ x.b ∧ x.b ≤ 254) : vZ page x = sign page x.b := by unfold vZ; rw [if_neg h, if_neg h2, if_pos h3]
end Gs
end
section
namespace Gs
open Go
def aje : Bool := (List.range 256).all fun r => decide (Lib.decodeL (Lib.encodeRune (r : Int)) = (r, (Lib.encodeRune (r : Int)).length)) && decide (Lib.encodeRune (r : Int) ≠ [])
theorem Vr : aje = true := by decide +kernel
theorem small {r : Int} (h0 : 0 ≤ r) (h1 : r < 256) : Lib.decodeL (Lib.encodeRune r) = (r.toNat, (Lib.encodeRune r).length) ∧ Lib.encodeRune r ≠ [] := by
 have := List.all_eq_true.1 Vr r.toNat (by simp; omega)
 rw [Int.toNat_of_nonneg h0] at this
 simpa using this
end Gs
end
section
namespace Gs
open Go
def Sgn (x : Int) : Prop := (0 ≤ x ∧ x < 256) ∨ (57344 ≤ x ∧ x < 57600)
def Qj (r : Nat) : Bool := decide ((Utf8.encode (r : Int)).data.toList = Lib.encodeRune (r : Int)) && decide (Lib.decodeL (Lib.encodeRune (r : Int)) = (r, (Lib.encodeRune (r : Int)).length)) && decide (Lib.encodeRune (r : Int) ≠ [])
theorem aku : ((List.range 256).all Qj) = true := by decide +kernel
theorem akv : ((List.range 256).all fun r => Qj (57344 + r)) = true := by decide +kernel
theorem ame {x : Int} (h : Sgn x) : (Utf8.encode x).data.toList = Lib.encodeRune x ∧ Lib.decodeL (Lib.encodeRune x) = (x.toNat, (Lib.encodeRune x).length) ∧ Lib.encodeRune x ≠ [] := by
 have key : Qj x.toNat = true := by
  rcases h with h | h
  ·exact List.all_eq_true.1 aku x.toNat (by simp; omega)
  ·have := List.all_eq_true.1 akv (x.toNat - 57344) (by simp; omega)
   rwa [show 57344 + (x.toNat - 57344) = x.toNat by omega] at this
 have hx : ((x.toNat : Nat) : Int) = x := Int.toNat_of_nonneg (by rcases h with h | h <;> omega)
 unfold Qj at key
 rw [hx] at key
 simp only [Bool.and_eq_true, decide_eq_true_eq] at key
 exact ⟨key.1.1, key.1.2, key.2⟩
theorem adW {page : Int} {x : Cell} (h : Cw x) : Sgn (vZ page x) := by
 have := aau (page := page) h.1 (by have := h.2; omega)
 obtain ⟨h0, h1⟩ := h
 unfold vZ Sgn
 split
 ·omega
 ·split
  ·omega
  ·split <;> omega
theorem DU : Cw zc := ⟨by decide, by decide⟩
end Gs
end
section
namespace Go.Sh
open Go
variable {P : Program} {w : World}
theorem afj (x : Int) (j : Nat) (hj : j ≤ 62) : bits .and .i64 x ((2 ^ j - 1 : Nat) : Int) = x % (2 ^ j : Nat) := by
 have h2 : (2 : Nat) ^ j ≤ 2 ^ 62 := Nat.pow_le_pow_right (by decide) hj
 have h1 : (0 : Nat) < 2 ^ j := Nat.two_pow_pos j
 have e2 : (2 : Nat) ^ 62 = 4611686018427387904 := by decide
 rw [e2] at h2
 have key : (BitVec.ofInt IntKind.i64.bits x &&& BitVec.ofInt IntKind.i64.bits ((2 ^ j - 1 : Nat) : Int)).toNat = (x % 18446744073709551616).toNat % 2 ^ j := by
  rw [BitVec.toNat_and, BitVec.toNat_ofInt, BitVec.toNat_ofInt]
  have e64 : ((2 ^ IntKind.i64.bits : Nat) : Int) = 18446744073709551616 := by decide
  rw [e64]
  rw [Int.emod_eq_of_lt (a := ((2 ^ j - 1 : Nat) : Int)) (by omega) (by omega), Int.toNat_natCast, Nat.and_two_pow_sub_one_eq_mod]
 have hx0 : 0 ≤ x % 18446744073709551616 := Int.emod_nonneg _ (by decide)
 have hd : ((2 ^ j : Nat) : Int) ∣ 18446744073709551616 := by
  have : ((2 : Nat) ^ j) ∣ 2 ^ 64 := Nat.pow_dvd_pow 2 (by omega)
  have e : (18446744073709551616 : Int) = ((2 ^ 64 : Nat) : Int) := by decide
  rw [e]; exact Int.natCast_dvd_natCast.2 this
 show IntKind.i64.wrap (((BitVec.ofInt IntKind.i64.bits x &&& BitVec.ofInt IntKind.i64.bits ((2 ^ j - 1 : Nat) : Int)).toNat : Nat) : Int) = _
 rw [key]
 have hl : (x % 18446744073709551616).toNat % 2 ^ j < 2 ^ j := Nat.mod_lt _ h1
 rw [wrap_i64 (by omega) (by omega), Int.natCast_emod, Int.toNat_of_nonneg hx0, Int.emod_emod_of_dvd _ hd]
end Go.Sh
end
section
namespace Gs
open Go
theorem ajN {cs : List Cell} {k : Nat} (h : k < cs.length) : cs[k]? = some (bH cs k) := by
 unfold bH
 rw [if_pos (by omega)]
 simp [List.getD, List.getElem?_eq_getElem h]
theorem place (i : Int) {N : Nat} (h : N ≠ 0) : 0 ≤ i % 4096 % (N : Int) ∧ i % 4096 % (N : Int) < N :=
 ⟨Int.emod_nonneg _ (by omega), Int.emod_lt_of_pos _ (by omega)⟩
theorem V3 {cs : List Cell} {i k : Int} {x : Cell} (hi : 0 ≤ i ∧ i < cs.length) (hk : 0 ≤ k ∧ k < cs.length) : bH (cs.set i.toNat x) k = if i = k then x else bH cs k := by
 unfold bH
 rw [List.length_set, if_pos hk]
 simp only [List.getD]
 rw [List.getElem?_set]
 by_cases h : i = k
 ·subst h; simp [show i.toNat < cs.length by omega]
 ·rw [if_neg (by omega), if_neg h, if_pos hk]
theorem Nw {k f : Int} {N : Nat} (hf : 0 ≤ f ∧ f < N) (hk : 0 ≤ k ∧ k < N) : (k - f + N) % N = if k < f then k - f + N else k - f := by
 split
 ·exact Int.emod_eq_of_lt (by omega) (by omega)
 ·rw [Int.add_emod_right]; exact Int.emod_eq_of_lt (by omega) (by omega)
end Gs
end
section
namespace Gs
open Go
structure su where
 s : Int
 l : Int
 a : Int
deriving DecidableEq
def fv (f : su) : List Value := [.int .i64 f.s, .int .i64 f.l, .int .u8 f.a]
def zf : su := ⟨0, 0, 0⟩
abbrev stB (cs : List Cell) (i : Int) : Bool := (bH cs i).st
def CS (cs : List Cell) (at' step : Int) : Option Nat := (List.range cs.length).find? fun i : Nat => stB cs ((at' + i * step) % cs.length)
def lU (cs : List Cell) (at' step : Int) : Int := if 0 ≤ at' ∧ at' < cs.length then match CS cs at' step with | some i => (at' + i * step) % cs.length | none => -1 else -1
def gY (cs : List Cell) (at' : Int) : Int := lU cs at' (-1)
def uS (cs : List Cell) (at' : Int) : Int := if 0 ≤ at' ∧ at' < cs.length then lU cs ((at' + 1) % cs.length) 1 else -1
def wU (cs : List Cell) (s : Int) : Int := if uS cs s - s - 1 < 0 then uS cs s - s - 1 + cs.length else uS cs s - s - 1
def lG (cs : List Cell) (s : Int) : su := ⟨s, wU cs s, (bH cs s).b % 64⟩
def dm (cs : List Cell) : List Nat := (List.range cs.length).filter fun i => stB cs i
def vO (cs : List Cell) : List Int := (dm cs).map Int.ofNat
def allM (cs : List Cell) : List su := (vO cs).map (lG cs)
def mX (cs : List Cell) (at' : Int) : su := if gY cs at' < 0 then zf else lG cs (gY cs at')
def mD (cs : List Cell) (at' : Int) : Bool := decide (¬ gY cs at' < 0)
def iP (N : Nat) (f : su) : List Int := if 0 ≤ f.s ∧ f.s < N then (List.range (min (max f.l 0) N).toNat).map fun k : Nat => (f.s + (k + 1 : Nat)) % N else []
def uo (a : Int) : Bool := decide (a / 32 % 2 = 1)
def jI (cs : List Cell) (at' : Int) : Bool := if gY cs at' < 0 then decide (0 ≤ at' ∧ at' < cs.length) else decide (gY cs at' ≠ at') && !uo (lG cs (gY cs at')).a
def zB (f : su) : Bool := decide (0 < f.l) && !uo f.a
def um (cs : List Cell) : Int := match (allM cs).find? zB with | some f => (f.s + 1) % cs.length | none => 0
theorem find_range {N i : Nat} {p : Nat → Bool} (hi : i < N) (hp : p i = true) (hn : ∀ j, j < i → p j = false) : (List.range N).find? p = some i := by
 rw [List.find?_range_eq_some]
 exact ⟨hp, by simpa using hi, fun j hj => by simp [hn j hj]⟩
theorem PS {N i : Nat} {p : Nat → Bool} (h : (List.range N).find? p = some i) : i < N ∧ p i = true ∧ ∀ j, j < i → p j = false := by
 rw [List.find?_range_eq_some] at h
 exact ⟨by simpa using h.2.1, h.1, fun j hj => by have := h.2.2 j hj; simpa using this⟩
theorem EN {N : Nat} {p : Nat → Bool} (h : (List.range N).find? p = none) {j : Nat} (hj : j < N) : p j = false := by
 have := List.find?_eq_none.1 h j (List.mem_range.2 hj)
 simpa using this
def yx (cs : List Cell) (at' step : Int) (k : Nat) : Prop := ∀ j, j < k → stB cs ((at' + j * step) % cs.length) = false
theorem YT (cs : List Cell) (at' step : Int) : yx cs at' step 0 := fun j hj => by omega
theorem PN {cs : List Cell} {at' step : Int} {k : Nat} (h : yx cs at' step k) (hn : stB cs ((at' + k * step) % cs.length) = false) : yx cs at' step (k + 1) := fun j hj => by
 by_cases hq : j = k
 ·subst hq; exact hn
 ·exact h j (by omega)
theorem LQ {cs : List Cell} {at' step : Int} {k : Nat} (h0 : 0 ≤ at' ∧ at' < cs.length) (h : yx cs at' step k) (hk : k < cs.length) (hs : stB cs ((at' + k * step) % cs.length) = true) : lU cs at' step = (at' + k * step) % cs.length := by
 unfold lU CS
 rw [if_pos h0, find_range hk hs h]
theorem SG {cs : List Cell} {at' step : Int} (h : yx cs at' step cs.length) : lU cs at' step = -1 := by
 unfold lU CS
 have : (List.range cs.length).find? (fun i : Nat => stB cs ((at' + i * step) % cs.length)) = none := by
  rw [List.find?_eq_none]
  intro j hj
  rw [h j (List.mem_range.1 hj)]; simp
 rw [this]; split <;> rfl
theorem AL {cs : List Cell} {at' step : Int} (h : ¬ (0 ≤ at' ∧ at' < cs.length)) : lU cs at' step = -1 := by unfold lU; rw [if_neg h]
theorem YU {cs : List Cell} {at' : Int} (h : ¬ (0 ≤ at' ∧ at' < cs.length)) : uS cs at' = -1 := by unfold uS; rw [if_neg h]
theorem kM (x : Int) {N : Nat} (h : 0 < N) : 0 ≤ x % (N : Int) ∧ x % (N : Int) < N := ⟨Int.emod_nonneg _ (by omega), Int.emod_lt_of_pos _ (by omega)⟩
theorem Kv {cs : List Cell} {at' step : Int} (h0 : 0 ≤ at' ∧ at' < cs.length) (h : ¬ lU cs at' step < 0) : ∃ k : Nat, k < cs.length ∧ lU cs at' step = (at' + k * step) % cs.length ∧ stB cs (lU cs at' step) = true ∧ yx cs at' step k := by
 unfold lU at *
 rw [if_pos h0] at *
 cases hf : CS cs at' step with
 | none => rw [hf] at h; simp at h
 | some k =>
  obtain ⟨h1, h2, h3⟩ := PS hf
  exact ⟨k, h1, rfl, h2, h3⟩
theorem Jq {cs : List Cell} {at' : Int} (h0 : 0 ≤ at' ∧ at' < cs.length) (h : lU cs at' 1 < 0) : ∀ i : Int, 0 ≤ i ∧ i < cs.length → stB cs i = false := by
 have hn : yx cs at' 1 cs.length := by
  unfold lU at h
  rw [if_pos h0] at h
  cases hf : CS cs at' 1 with
  | none => intro j hj; exact EN hf hj
  | some k => rw [hf] at h; have := (kM (at' + k * 1) (N := cs.length) (by omega)).1; simp only at h; omega
 intro i hi
 have := hn (((i - at') % cs.length).toNat) (by have := kM (i - at') (N := cs.length) (by omega); omega)
 rwa [Int.toNat_of_nonneg (kM (i - at') (N := cs.length) (by omega)).1, Int.mul_one, Int.add_comm at', Int.emod_add_emod, show i - at' + at' = i by omega, Int.emod_eq_of_lt hi.1 hi.2] at this
theorem QS {cs : List Cell} {at' : Int} (h0 : 0 ≤ at' ∧ at' < cs.length) (h : lU cs at' (-1) < 0) : ∀ i : Int, 0 ≤ i ∧ i < cs.length → stB cs i = false := by
 have hn : yx cs at' (-1) cs.length := by
  unfold lU at h
  rw [if_pos h0] at h
  cases hf : CS cs at' (-1) with
  | none => intro j hj; exact EN hf hj
  | some k => rw [hf] at h; have := (kM (at' + k * (-1)) (N := cs.length) (by omega)).1; simp only at h; omega
 intro i hi
 have := hn (((at' - i) % cs.length).toNat) (by have := kM (at' - i) (N := cs.length) (by omega); omega)
 have e := Int.toNat_of_nonneg (kM (at' - i) (N := cs.length) (by omega)).1
 rw [e] at this
 have e2 : (at' + (at' - i) % (cs.length : Int) * -1) % (cs.length : Int) = i := by
  rw [Int.mul_neg, Int.mul_one, ← Int.sub_eq_add_neg, Int.sub_emod, Int.emod_emod, ← Int.sub_emod, show at' - (at' - i) = i by omega, Int.emod_eq_of_lt hi.1 hi.2]
 rwa [e2] at this
theorem len_eq {cs : List Cell} {s : Int} (h0 : 0 ≤ s ∧ s < cs.length) (hs : stB cs s = true) :
  ∃ L : Nat, L < cs.length ∧ wU cs s = L ∧ uS cs s = (s + 1 + L) % cs.length ∧ stB cs ((s + 1 + L) % cs.length) = true ∧ ∀ j : Nat, j < L → stB cs ((s + 1 + j) % cs.length) = false := by
 have hN : 0 < cs.length := by omega
 have hm := kM (s + 1) hN
 have h1 : ¬ lU cs ((s + 1) % cs.length) 1 < 0 := fun h => by
  have := Jq hm h s h0; rw [hs] at this; cases this
 obtain ⟨L, h2, h3, h4, h5⟩ := Kv hm h1
 rw [Int.mul_one, Int.emod_add_emod] at h3
 have ha : uS cs s = (s + 1 + L) % cs.length := by unfold uS; rw [if_pos h0, h3]
 refine ⟨L, h2, ?_, ha, by rw [← h3]; exact h4, fun j hj => ?_⟩
 ·unfold wU
  rw [ha]
  have hb := kM (s + 1 + L) hN
  by_cases hlt : s + 1 + L < cs.length
  ·rw [Int.emod_eq_of_lt (by omega) hlt, if_neg (by omega)]; omega
  ·have : (s + 1 + (L : Int)) % cs.length = s + 1 + L - cs.length := by
    rw [← Int.sub_emod_right, Int.emod_eq_of_lt (by omega) (by omega)]
   rw [this]
   by_cases hL : (L : Int) + 1 = cs.length
   ·rw [if_pos (by omega)]; omega
   ·rw [if_pos (by omega)]; omega
 ·have := h5 j hj
  rwa [Int.mul_one, Int.emod_add_emod] at this
theorem VY {cs : List Cell} {s : Int} (h0 : 0 ≤ s ∧ s < cs.length) (hs : stB cs s = true) {j : Nat} (hj : (j : Int) ≤ wU cs s) : gY cs ((s + j) % cs.length) = s := by
 have hN : 0 < cs.length := by omega
 obtain ⟨L, h1, h2, _, _, h5⟩ := len_eq h0 hs
 have hjL : j ≤ L := by omega
 have hm := kM (s + j) hN
 have key : ∀ i : Nat, i ≤ j → ((s + j) % (cs.length : Int) + i * (-1)) % cs.length = (s + (j - i : Nat)) % cs.length := by
  intro i hi
  rw [Int.emod_add_emod]; congr 1; omega
 unfold gY
 have hk : (s + (j : Int)) % cs.length + (j : Nat) * (-1) = _ := rfl
 rw [LQ (k := j) hm (fun i hi => ?_) (by omega) ?_]
 ·rw [key j (Nat.le_refl _), Nat.sub_self]; simp only [Int.natCast_zero, Int.add_zero]; exact Int.emod_eq_of_lt h0.1 h0.2
 ·rw [key j (Nat.le_refl _), Nat.sub_self]; simp only [Int.natCast_zero, Int.add_zero]; rw [Int.emod_eq_of_lt h0.1 h0.2]; exact hs
 ·rw [key i (by omega)]
  have := h5 (j - i - 1) (by omega)
  rwa [show s + 1 + ((j - i - 1 : Nat) : Int) = s + (j - i : Nat) by omega] at this
theorem VL {cs : List Cell} {x : Int} (h0 : 0 ≤ x ∧ x < cs.length) (h : ¬ gY cs x < 0) : 0 ≤ gY cs x ∧ gY cs x < cs.length ∧ stB cs (gY cs x) = true ∧ ∃ j : Nat, (j : Int) ≤ wU cs (gY cs x) ∧ x = (gY cs x + j) % cs.length := by
 have hN : 0 < cs.length := by omega
 obtain ⟨k, h1, h2, h3, h4⟩ := Kv h0 h
 have e : gY cs x = (x + k * (-1)) % cs.length := h2
 have hb := kM (x + k * (-1)) hN
 have hs : 0 ≤ gY cs x ∧ gY cs x < cs.length := by rw [e]; exact hb
 have hxk : x = (gY cs x + k) % cs.length := by
  rw [e, Int.emod_add_emod, show x + (k : Int) * (-1) + k = x by omega, Int.emod_eq_of_lt h0.1 h0.2]
 refine ⟨hs.1, hs.2, h3, k, ?_, hxk⟩
 obtain ⟨L, q1, q2, _, q4, _⟩ := len_eq hs h3
 rw [q2]
 by_cases hq : k ≤ L
 ·omega
 ·exfalso
  have := h4 (k - L - 1) (by omega)
  have e2 : (x + ((k - L - 1 : Nat) : Int) * (-1)) % (cs.length : Int) = (gY cs x + 1 + L) % cs.length := by
   conv => lhs; rw [hxk]
   rw [Int.emod_add_emod]; congr 1; omega
  rw [e2, q4] at this
  cases this
theorem VM {cs : List Cell} {s : Int} (h0 : 0 ≤ s ∧ s < cs.length) (hs : stB cs s = true) : gY cs s = s := by
 obtain ⟨L, _, h2, _⟩ := len_eq h0 hs
 have := VY h0 hs (j := 0) (by omega)
 simp only [Int.natCast_zero, Int.add_zero] at this
 rwa [Int.emod_eq_of_lt h0.1 h0.2] at this
theorem uT {cs : List Cell} {i : Nat} : i ∈ dm cs ↔ i < cs.length ∧ stB cs i = true := by simp [dm]
theorem FQ {cs : List Cell} {s : Int} : s ∈ vO cs ↔ (0 ≤ s ∧ s < cs.length) ∧ stB cs s = true := by
 simp only [vO, List.mem_map]
 constructor
 ·rintro ⟨i, hi, rfl⟩
  have := uT.1 hi
  exact ⟨⟨Int.natCast_nonneg i, by have := this.1; show (i : Int) < _; omega⟩, this.2⟩
 ·rintro ⟨h, hs⟩
  exact ⟨s.toNat, uT.2 ⟨by omega, by rw [Int.toNat_of_nonneg h.1]; exact hs⟩, Int.toNat_of_nonneg h.1⟩
theorem Ui (cs : List Cell) : (dm cs).Pairwise (· < ·) := List.pairwise_lt_range.filter _
theorem adu {cs : List Cell} {i j : Nat} (hij : i < j) (hj : j < (dm cs).length) : (dm cs)[i]'(by omega) < (dm cs)[j] := List.pairwise_iff_getElem.1 (Ui cs) i j (by omega) hj hij
theorem Oe (cs : List Cell) : (allM cs).length = (dm cs).length := by simp [allM, vO]
theorem vz (cs : List Cell) : (dm cs).length ≤ cs.length := by
 have := List.length_filter_le (fun i : Nat => stB cs i) (List.range cs.length)
 rw [List.length_range] at this; exact this
theorem uf {n a b : Int} (h : n ≠ 0) : EO n a b = (a + b) % n := by unfold EO; rw [if_neg h]
theorem aju {cs : List Cell} (at' step : Int) : -1 ≤ lU cs at' step ∧ lU cs at' step < max cs.length 1 := by
 unfold lU
 split
 ·rename_i h0
  cases hf : CS cs at' step with
  | none => simp only; omega
  | some k => have := kM (at' + k * step) (N := cs.length) (by omega); simp only; omega
 ·omega
theorem alH {cs : List Cell} {i : Int} (h0 : 0 ≤ i ∧ i < cs.length) : -1 ≤ uS cs i ∧ uS cs i < cs.length := by
 unfold uS
 rw [if_pos h0]
 have := aju (cs := cs) ((i + 1) % cs.length) 1
 omega
theorem adq {cs : List Cell} {i : Int} (h0 : 0 ≤ i ∧ i < cs.length) : uS cs i = lU cs ((i + 1) % cs.length) 1 := by unfold uS; rw [if_pos h0]
theorem alI {cs : List Cell} {i : Int} (h : uS cs i - i - 1 < 0) : uS cs i - i - 1 + cs.length = wU cs i := by unfold wU; rw [if_pos h]
theorem alJ {cs : List Cell} {i : Int} (h : ¬ uS cs i - i - 1 < 0) : uS cs i - i - 1 = wU cs i := by unfold wU; rw [if_neg h]
theorem sO {cs : List Cell} (h : je cs) (i : Int) : 0 ≤ (bH cs i).b ∧ (bH cs i).b ≤ 255 := by
 unfold bH
 split
 ·rename_i hi
  rw [List.getD]
  cases hx : cs[i.toNat]? with
  | none => exact DU
  | some x => exact h x (List.mem_of_getElem? hx)
 ·exact DU
theorem QX {cs : List Cell} {i : Int} (h : ¬ gY cs i < 0) : 0 ≤ gY cs i ∧ gY cs i < cs.length := by
 by_cases h0 : 0 ≤ i ∧ i < cs.length
 ·have := VL h0 h; exact ⟨this.1, this.2.1⟩
 ·unfold gY at h; rw [AL h0] at h; exact absurd (by omega) h
theorem alL {cs : List Cell} {i : Int} (h : ¬ gY cs i < 0) : Ending.returned (.tuple #[.agg (fv (lG cs (gY cs i))).toArray, .bool true]) = Ending.returned (.tuple #[.agg (fv (mX cs i)).toArray, .bool (mD cs i)]) := by
 unfold mX mD; rw [if_neg h, decide_eq_true h]
theorem alK {cs : List Cell} {i : Int} (h : gY cs i < 0) : Ending.returned (.tuple #[.agg (fv zf).toArray, .bool false]) = Ending.returned (.tuple #[.agg (fv (mX cs i)).toArray, .bool (mD cs i)]) := by
 unfold mX mD; rw [if_pos h, decide_eq_false (by omega)]
theorem aay {cs : List Cell} (h : je cs) (i : Int) : 0 ≤ (mX cs i).a ∧ (mX cs i).a ≤ 255 := by
 unfold mX
 split
 ·exact ⟨by decide, by decide⟩
 ·show 0 ≤ (bH cs _).b % 64 ∧ (bH cs _).b % 64 ≤ 255
  omega
theorem YV {cs : List Cell} {i : Int} (h : mD cs i = false) : jI cs i = decide (0 ≤ i ∧ i < cs.length) := by
 unfold jI; rw [if_pos (by simpa [mD] using h)]
theorem afI {cs : List Cell} {i : Int} (h : mD cs i = true) (h2 : (mX cs i).s ≠ i) : jI cs i = !decide ((mX cs i).a / 32 % 2 = 1) := by
 have h3 : ¬ gY cs i < 0 := by simpa [mD] using h
 unfold mX at h2 ⊢
 rw [if_neg h3] at h2 ⊢
 unfold jI
 rw [if_neg h3, decide_eq_true (show gY cs i ≠ i from h2)]
 rfl
theorem adr {cs : List Cell} {i : Int} (h : mD cs i = true) (h2 : ¬ (mX cs i).s ≠ i) : jI cs i = false := by
 have h3 : ¬ gY cs i < 0 := by simpa [mD] using h
 unfold mX at h2
 rw [if_neg h3] at h2
 unfold jI
 rw [if_neg h3, decide_eq_false (show ¬ gY cs i ≠ i from h2)]
 rfl
def AB (q : Bool) (x : Cell) : Cell := ⟨if q = true then x.b - x.b % 2 + 1 else x.b - x.b % 2, x.ge, x.st, x.l, x.c⟩
def rO (q : Bool) (cs : List Cell) (i : Int) : List Cell := iC cs i (AB q (bH cs i))
def lT (cs : List Cell) (i : Int) : List Cell := if gY cs i < 0 then cs else rO true cs (gY cs i)
theorem DV (q : Bool) (cs : List Cell) (i : Int) : (rO q cs i).length = cs.length := mg _ _ _
theorem EK (cs : List Cell) (i : Int) : (lT cs i).length = cs.length := by unfold lT; split; rfl; exact DV _ _ _
theorem QT {cs : List Cell} {i : Int} (h : gY cs i < 0) : lT cs i = cs := by unfold lT; rw [if_pos h]
theorem VV {cs : List Cell} {i : Int} (h : ¬ gY cs i < 0) : lT cs i = rO true cs (gY cs i) := by unfold lT; rw [if_neg h]
theorem alN {q : Bool} {x : Cell} (h : Cw x) : Cw (AB q x) := by
 obtain ⟨h1, h2⟩ := h
 unfold AB Cw
 cases q <;> simp <;> omega
theorem VO {q : Bool} {cs : List Cell} (h : je cs) (i : Int) : je (rO q cs i) := h.iC (alN (sO h i)) _
theorem ajl {cs : List Cell} (h : je cs) (i : Int) : je (lT cs i) := by unfold lT; split; exact h; exact VO h _
def AO (cs : List Cell) (i : Nat) : Nat := ((List.range i).filter fun j : Nat => stB cs j).length
theorem aom {cs : List Cell} {i : Nat} (h : stB cs i = true) : AO cs (i + 1) = AO cs i + 1 := by simp [AO, List.range_succ, List.filter_append, h]
theorem aon {cs : List Cell} {i : Nat} (h : stB cs i = false) : AO cs (i + 1) = AO cs i := by simp [AO, List.range_succ, List.filter_append, h]
theorem cnt_end (cs : List Cell) : AO cs cs.length = (dm cs).length := rfl
theorem ads {cs : List Cell} {i : Nat} (hi : i < cs.length) (h : stB cs i = true) : (dm cs)[AO cs i]? = some i := by
 have e : List.range cs.length = List.range i ++ i :: List.range' (i + 1) (cs.length - i - 1) := by
  have h3 : List.range' 0 i ++ List.range' (0 + i) (cs.length - i) = List.range' 0 (i + (cs.length - i)) := List.range'_append_1
  rw [Nat.zero_add, show i + (cs.length - i) = cs.length by omega] at h3
  rw [List.range_eq_range', List.range_eq_range', ← h3]
  congr 1
  rw [show cs.length - i = (cs.length - i - 1) + 1 by omega, List.range'_succ]; rfl
 unfold dm AO
 rw [e, List.filter_append, List.getElem?_append_right (Nat.le_refl _), Nat.sub_self, List.filter_cons, if_pos h]
 rfl
theorem uP {N : Nat} {f : su} (h : 0 ≤ f.s ∧ f.s < N) : ((iP N f).length : Int) = min (max f.l 0) N := by
 unfold iP
 rw [if_pos h, List.length_map, List.length_range]; omega
theorem yT {N : Nat} {f : su} (h : ¬ (0 ≤ f.s ∧ f.s < N)) : iP N f = [] := by unfold iP; rw [if_neg h]
theorem yU {N : Nat} {f : su} {k : Nat} (h : k < (iP N f).length) : (iP N f)[k]? = some ((f.s + (k + 1 : Nat)) % N) := by
 unfold iP at *
 split at h
 ·rename_i h0
  rw [if_pos h0]
  simp only [List.length_map, List.length_range] at h
  simp [h]
 ·simp at h
theorem Ie {N : Nat} {f : su} {k : Nat} {x : Int} (h : (iP N f)[k]? = some x) : 0 ≤ x ∧ x < N := by
 have hk := (List.getElem?_eq_some_iff.1 h).1
 have h2 := yU hk
 rw [h] at h2
 have h3 : x = (f.s + (k + 1 : Nat)) % N := by simpa using h2
 have hN : 0 < N := by
  rcases Nat.eq_zero_or_pos N with h0 | h0
  ·subst h0; rw [yT (by omega)] at hk; simp at hk
  ·exact h0
 rw [h3]; exact kM _ hN
theorem EJ (N : Nat) (f : su) : (iP N f).length ≤ N := by
 by_cases h : 0 ≤ f.s ∧ f.s < N
 ·have := uP h; omega
 ·rw [yT h]; simp
theorem rf {α : Type} {l : List α} {k : Nat} {x : α} (h : l[k]? = some x) : l.take k ++ [x] = l.take (k + 1) := by rw [List.take_add_one, h]; rfl
theorem GI {cs : List Cell} {k s : Nat} (h : (dm cs)[k]? = some s) : (allM cs)[k]? = some (lG cs s) := by simp [allM, vO, h]
theorem abf {cs : List Cell} (h : je cs) (i : Int) : 0 ≤ (lG cs i).a ∧ (lG cs i).a ≤ 255 := by
 show 0 ≤ (bH cs _).b % 64 ∧ (bH cs _).b % 64 ≤ 255
 omega
def Io (cs : List Cell) (k : Nat) : Prop := ∀ g ∈ (allM cs).take k, zB g = false
theorem ajt (cs : List Cell) : Io cs 0 := fun g hg => by simp at hg
theorem PQ {cs : List Cell} {k s : Nat} (h : Io cs k) (hx : (dm cs)[k]? = some s) (hf : zB (lG cs s) = false) : Io cs (k + 1) := by
 intro g hg
 rw [← rf (GI hx)] at hg
 rcases List.mem_append.1 hg with hg | hg
 ·exact h g hg
 ·simp at hg; subst hg; exact hf
theorem EI {α : Type} {p : α → Bool} : ∀ {l : List α} {k : Nat} {x : α}, l[k]? = some x → (∀ y ∈ l.take k, p y = false) → p x = true → l.find? p = some x
 | [], k, x, h, _, _ => by simp at h
 | a :: l, 0, x, h, _, hp => by simp at h; subst h; simp [hp]
 | a :: l, k + 1, x, h, hn, hp => by
  have ha := hn a (by simp)
  rw [List.find?_cons, ha]
  exact EI (by simpa using h) (fun y hy => hn y (by simp [hy])) hp
theorem ajq {cs : List Cell} {k s : Nat} (h : Io cs k) (hx : (dm cs)[k]? = some s) (hf : zB (lG cs s) = true) : ((s : Int) + 1) % cs.length = um cs := by
 unfold um
 rw [EI (GI hx) h hf]; rfl
theorem adt {cs : List Cell} (h : Io cs (dm cs).length) : um cs = 0 := by
 unfold um
 have : (allM cs).find? zB = none := by
  rw [List.find?_eq_none]
  intro g hg
  rw [h g (by rw [List.take_of_length_le (by rw [Oe]; exact Nat.le_refl _)]; exact hg)]; simp
 rw [this]
theorem ajr {f : su} (h : 0 < f.l) (h2 : ¬ f.a / 32 % 2 = 1) : zB f = true := by unfold zB uo; simp [h, h2]
theorem ajs {f : su} (h : ¬ 0 < f.l) : zB f = false := by unfold zB; simp [h]
theorem ajp {f : su} (h2 : f.a / 32 % 2 = 1) : zB f = false := by unfold zB uo; simp [h2]
def BX (cs : List Cell) (s : Nat) : Bool := decide ((bH cs s).b % 2 = 1)
def rJ (cs : List Cell) (l : List Nat) : List Cell := l.foldl (fun c s => if BX cs s = true then rO false c s else c) cs
theorem VZ {cs : List Cell} {l : List Nat} {k s : Nat} (h : l[k]? = some s) : rJ cs (l.take (k + 1)) = if BX cs s = true then rO false (rJ cs (l.take k)) s else rJ cs (l.take k) := by
 rw [← rf h]; unfold rJ; rw [List.foldl_append]; rfl
theorem LU {P : List Cell → Prop} {cs : List Cell} (h0 : P cs) (hs : ∀ c s, P c → P (rO false c s)) : ∀ l : List Nat, P (rJ cs l) := by
 intro l
 suffices h : ∀ (l : List Nat) (c : List Cell), P c → P (l.foldl (fun c s => if BX cs s = true then rO false c s else c) c) from h l cs h0
 intro l
 induction l with
 | nil => intro c h; exact h
 | cons a l ih =>
  intro c h
  rw [List.foldl_cons]
  split
  ·exact ih _ (hs c a h)
  ·exact ih _ h
theorem Gz (cs : List Cell) (l : List Nat) : cs.length = (rJ cs l).length := (LU (P := fun c => c.length = cs.length) rfl (fun c s h => by rw [DV]; exact h) l).symm
theorem UB {cs : List Cell} (h : je cs) (l : List Nat) : je (rJ cs l) := LU h (fun c s h => VO h s) l
theorem AA {q : Bool} {cs : List Cell} {i j : Int} : bH (rO q cs i) j = if i = j ∧ 0 ≤ i ∧ i < cs.length then AB q (bH cs i) else bH cs j := by
 unfold rO
 by_cases hi : 0 ≤ i ∧ i < cs.length
 ·by_cases hj : 0 ≤ j ∧ j < cs.length
  ·rw [GG _ hi.1 hi.2, V3 hi hj]
   by_cases h : i = j
   ·rw [if_pos h, if_pos ⟨h, hi⟩]
   ·rw [if_neg h, if_neg (fun h2 => h h2.1)]
  ·rw [yJ (by rw [mg]; exact hj), yJ hj, if_neg]
   rintro ⟨rfl, _⟩
   exact hj hi
 ·rw [NZ _ hi, if_neg]
  rintro ⟨_, h2⟩
  exact hi h2
theorem VP {q : Bool} {cs : List Cell} {i j : Int} : stB (rO q cs i) j = stB cs j := by
 show (bH _ _).st = (bH _ _).st
 rw [AA]
 split
 ·rename_i h; rw [← h.1]; rfl
 ·rfl
theorem V4 (cs : List Cell) (l : List Nat) (i : Int) : stB (rJ cs l) i = stB cs i := LU (P := fun c => stB c i = stB cs i) rfl (fun c s h => by rw [VP]; exact h) l
theorem ajv {cs : List Cell} {s : Nat} : ∀ {l : List Nat}, s ∉ l → bH (rJ cs l) s = bH cs s := by
 intro l hl
 suffices h : ∀ (l : List Nat) (c : List Cell), s ∉ l → bH (l.foldl (fun c s => if BX cs s = true then rO false c s else c) c) s = bH c s from h l cs hl
 intro l
 induction l with
 | nil => intro c _; rfl
 | cons a l ih =>
  intro c h
  rw [List.foldl_cons, ih _ (fun hm => h (by simp [hm]))]
  split
  ·rw [AA, if_neg]
   rintro ⟨h2, _⟩
   exact h (by simp; omega)
  ·rfl
theorem Nj {cs : List Cell} {k s : Nat} (hx : (dm cs)[k]? = some s) : s ∉ (dm cs).take k := by
 intro hm
 obtain ⟨j, hj, he⟩ := List.getElem_of_mem hm
 obtain ⟨hk, hx2⟩ := List.getElem?_eq_some_iff.1 hx
 rw [List.length_take] at hj
 have := adu (cs := cs) (i := j) (j := k) (by omega) hk
 rw [List.getElem_take] at he
 omega
theorem LV {cs : List Cell} {k s : Nat} (hx : (dm cs)[k]? = some s) : (lG (rJ cs ((dm cs).take k)) s).a % 2 = 1 ↔ BX cs s = true := by
 show (bH _ _).b % 64 % 2 = 1 ↔ _
 rw [ajv (Nj hx)]
 unfold BX
 rw [decide_eq_true_eq]; omega
def DZ (cs : List Cell) (k : Nat) : Nat := ((dm cs).take k).countP (BX cs)
theorem alO {cs : List Cell} {k s : Nat} (hx : (dm cs)[k]? = some s) (h : BX cs s = true) : DZ cs (k + 1) = DZ cs k + 1 := by
 unfold DZ; rw [← rf hx, List.countP_append]; simp [h]
theorem alP {cs : List Cell} {k s : Nat} (hx : (dm cs)[k]? = some s) (h : ¬ BX cs s = true) : DZ cs (k + 1) = DZ cs k := by
 unfold DZ; rw [← rf hx, List.countP_append]; simp [h]
theorem ajw (cs : List Cell) (k : Nat) : DZ cs k ≤ cs.length := by
 have h1 := List.countP_le_length (p := BX cs) (l := (dm cs).take k)
 have h2 := vz cs
 rw [List.length_take] at h1
 unfold DZ; omega
end Gs
end
section
namespace Go.Sh
open Go
variable {P : Program} {w : World}
theorem NK (t : TypeId) (k : IntKind) (x y : Int) : (binOp .and t (.int k x) (.int k y)).run P w = .ok (.int k (bits .and k x y)) w := by cases k <;> rfl
theorem orB (t : TypeId) (k : IntKind) (x y : Int) : (binOp .or t (.int k x) (.int k y)).run P w = .ok (.int k (bits .or k x y)) w := by cases k <;> rfl
theorem YG (t : TypeId) (k : IntKind) (x y : Int) : (binOp .andNot t (.int k x) (.int k y)).run P w = .ok (.int k (bits .andNot k x y)) w := by cases k <;> rfl
theorem xU {p : Int → Prop} (h : ∀ n : Fin 256, p (n.val : Int)) {x : Int} (hx : 0 ≤ x ∧ x ≤ 255) : p x := by
 have := h ⟨x.toNat, by omega⟩
 simpa [Int.toNat_of_nonneg hx.1] using this
theorem acV {x : Int} (hx : 0 ≤ x ∧ x ≤ 255) : bits .and .u8 x 32 = x / 32 % 2 * 32 := xU (p := fun x => bits .and .u8 x 32 = x / 32 % 2 * 32) (by decide +kernel) hx
theorem acW {x : Int} (hx : 0 ≤ x ∧ x ≤ 255) : bits .and .u8 x 16 = x / 16 % 2 * 16 := xU (p := fun x => bits .and .u8 x 16 = x / 16 % 2 * 16) (by decide +kernel) hx
theorem afk {x : Int} (hx : 0 ≤ x ∧ x ≤ 255) : bits .and .u8 x 1 = x % 2 := xU (p := fun x => bits .and .u8 x 1 = x % 2) (by decide +kernel) hx
theorem acX {x : Int} (hx : 0 ≤ x ∧ x ≤ 255) : bits .and .u8 x 63 = x % 64 := xU (p := fun x => bits .and .u8 x 63 = x % 64) (by decide +kernel) hx
theorem aiX {x : Int} (hx : 0 ≤ x ∧ x ≤ 255) : bits .or .u8 x 1 = x - x % 2 + 1 := xU (p := fun x => bits .or .u8 x 1 = x - x % 2 + 1) (by decide +kernel) hx
theorem XT {x : Int} (hx : 0 ≤ x ∧ x ≤ 255) : bits .andNot .u8 x 1 = x - x % 2 := xU (p := fun x => bits .andNot .u8 x 1 = x - x % 2) (by decide +kernel) hx
theorem aiY (t : TypeId) {x : Int} (hx : 0 ≤ x ∧ x ≤ 255) : (binOp .and t (.int .u8 x) (.int .u8 32)).run P w = .ok (.int .u8 (x / 32 % 2 * 32)) w := by rw [NK, acV hx]
theorem aiZ (t : TypeId) {x : Int} (hx : 0 ≤ x ∧ x ≤ 255) : (binOp .and t (.int .u8 x) (.int .u8 16)).run P w = .ok (.int .u8 (x / 16 % 2 * 16)) w := by rw [NK, acW hx]
theorem UG (t : TypeId) {x : Int} (hx : 0 ≤ x ∧ x ≤ 255) : (binOp .and t (.int .u8 x) (.int .u8 1)).run P w = .ok (.int .u8 (x % 2)) w := by rw [NK, afk hx]
theorem Dz (t : TypeId) {x : Int} (hx : 0 ≤ x ∧ x ≤ 255) : (binOp .and t (.int .u8 x) (.int .u8 63)).run P w = .ok (.int .u8 (x % 64)) w := by rw [NK, acX hx]
theorem aog (t : TypeId) {x : Int} (hx : 0 ≤ x ∧ x ≤ 255) : (binOp .or t (.int .u8 x) (.int .u8 1)).run P w = .ok (.int .u8 (x - x % 2 + 1)) w := by rw [orB, aiX hx]
theorem acY (t : TypeId) {x : Int} (hx : 0 ≤ x ∧ x ≤ 255) : (binOp .andNot t (.int .u8 x) (.int .u8 1)).run P w = .ok (.int .u8 (x - x % 2)) w := by rw [YG, XT hx]
theorem aql (t : TypeId) {x y : Int} (hx : 0 ≤ x) (hx2 : x ≤ 9223372036854775807) (h : 0 < y) : (binOp .quo t (.int .i64 x) (.int .i64 y)).run P w = .ok (.int .i64 (x / y)) w := by
 have hy : ¬ y = 0 := by omega
 have h1 := Int.ediv_nonneg hx (show 0 ≤ y by omega)
 have h2 := Int.ediv_le_self y hx
 simp [go_sem, binOp, Op.intArith, hy]
 rw [Int.tdiv_eq_ediv_of_nonneg hx, wrap_i64 (by omega) (by omega)]
theorem ai0 {C : World → Prop} {A : (World → World → Prop) → World → Prop} (hC : ∀ a b, C a → aB no a b → C b) (h : ∀ w1, aB no w w1 → A (fun a b => C a → C b) w1) : drawn w A :=
 ⟨_, ⟨fun _ h => h, fun h k hc => k (h hc), fun he hc => hC _ _ hc (Fr.jq he)⟩, h _ (aB.drawn w)⟩
theorem Own.FI {B : Nat} {w : World} {e size : Nat} {v : Value} {xs : List Value} (h : Own B w e size v xs) : v.cells = #[v] ∧ v.oneCell' = true := by
 obtain ⟨n, _, h⟩ := h
 rcases h with ⟨rfl, _⟩ | ⟨g, cap, cur, rfl, _⟩ <;> exact ⟨rfl, rfl⟩
theorem ZQ {w : World} {b b' : Nat} {cs : Array Value} {T : TypeId} {fr : Nat × Nat} {d : Option (List Deferred)} (h' : w.heap[b']? = some (.deferred d)) (h : w.heap[b]? = some (.cells cs T fr)) : b' ≠ b := by
 intro e; subst e; rw [h] at h'; cases h'
section
variable {α : Type} {f : α → List Value} {m : Nat} {l : List α} {R : Ending → World → Prop} {K : Value → World → Prop}
end
end Go.Sh
end
section
namespace Go.Proofs.YtjdoakbadehicaaGreatDoor
open Go Go.Sh
set_option maxRecDepth 100000
theorem Vm {w : World} : oX 80 #[] w fun e w' => e = .returned (.agg (vals .u8 Gs.BF).toArray) ∧ aB no w w' := by
  refine F80.calls ?_
  unfold F80
  refine vI (cs := (vals .u8 (List.replicate 256 0)).toArray) (by kernel_rfl) fun b w1 e1 h1 _ U1 => ?_
  refine ak (uD (n := 256) (m := 1) (z := (vals .u8 (List.replicate 256 0)).toArray) (cs := vals .u8 Gs.BF) (by kernel_rfl) (by kernel_rfl) (by kernel_rfl)) ?_
  refine QO (n := 256) (by kernel_rfl) (by kernel_rfl) (by kernel_rfl) rG h1 fun w2 h2 _ U2 => ?_
  refine Ap (aok (n := 256) (by kernel_rfl) h2 (by kernel_rfl)) ?_
  exact ⟨rfl, U1.go1 U2 (by omega)⟩
theorem QP {b : Int} {w : World} :
    oX 57 #[Z.u b] w fun e w' => e = .returned (.bool (decide (64 ≤ b ∧ b ≤ 254))) ∧ aB no w w' := by
 refine F57.calls ?_
 unfold F57
 have hF : aB no w w := Fr.refl _ _ _
 refine az (geq _ _ _ _) (fun h1 => ?_) (fun h1 => ?_)
 refine aV (aV ?_)
 refine ak (leq _ _ _ _) ?_
 refine aU ?_
 exact ⟨Ak (by omega), hF⟩
 refine aP (aP (aQ ?_))
 exact ⟨NU (by omega), hF⟩
theorem Vo {b : Int} {w : World} :
    oX 155 #[Z.u b] w fun e w' => e = .returned (.bool (decide (240 ≤ b ∧ b ≤ 249))) ∧ aB no w w' := by
 refine aap.calls ?_
 unfold aap
 have hF : aB no w w := Fr.refl _ _ _
 refine az (geq _ _ _ _) (fun h1 => ?_) (fun h1 => ?_)
 refine aV (aV ?_)
 refine ak (leq _ _ _ _) ?_
 refine aU ?_
 exact ⟨Ak (by omega), hF⟩
 refine aP (aP (aQ ?_))
 exact ⟨NU (by omega), hF⟩
theorem Gv {b : Int} {w : World} (h0 : 0 ≤ b := by omega) (h1 : b < 256 := by omega) :
    oX 129 #[Z.u b] w fun e w' => e = .returned (.int .i32 (57344 + b)) ∧ aB no w w' := by
 refine aaq.calls ?_
 unfold aaq
 have hF : aB no w w := Fr.refl _ _ _
 refine ak (NV (by kernel_rfl) (by kernel_rfl) (by omega)) ?_
 refine ak (ajd _ (by omega)) ?_
 exact ⟨rfl, hF⟩
theorem Vp {page : Int} {w : World} :
    oX 79 #[Z.i page] w fun e w' => ∃ v, e = .returned v ∧ ∃ A c, v = .slice A (Gs.lS page).length c ∧ aB no w w' ∧ Rd w' A (JX (Gs.lS page)) ∧ wC A (JX (Gs.lS page)) w.heap.size := by
 refine F79.calls ?_
 unfold F79
 have hF : aB no w w := Fr.refl _ _ _
 refine az (dh _ _ _ _ _) (fun h1 => ?_) (fun h1 => ?_)
 refine aK ?_
 refine ak (bF (l := [(0, 1), (1, 1)]) (z := #[Z.u 0, Z.u 0]) (by kernel_rfl) (by (simp [eH, splice, fO, Value.cells]; rfl))) ?_
 refine ak (bF (l := [(0, 1), (1, 1)]) (z := #[Z.u 0, Z.u 0]) (by kernel_rfl) (by (simp [eH, splice, fO, Value.cells]; rfl))) ?_
 refine ak (bF (l := [(0, 1), (1, 1)]) (z := #[Z.u 0, Z.u 0]) (by kernel_rfl) (by (simp [eH, splice, fO, Value.cells]; rfl))) ?_
 refine ak (bF (l := [(0, 1), (1, 1)]) (z := #[Z.u 0, Z.u 0]) (by kernel_rfl) (by (simp [eH, splice, fO, Value.cells]; rfl))) ?_
 refine ak (bF (l := [(0, 1), (1, 1)]) (z := #[Z.u 0, Z.u 0]) (by kernel_rfl) (by (simp [eH, splice, fO, Value.cells]; rfl))) ?_
 refine ak (bF (l := [(0, 1), (1, 1)]) (z := #[Z.u 0, Z.u 0]) (by kernel_rfl) (by (simp [eH, splice, fO, Value.cells]; rfl))) ?_
 refine ak (bF (l := [(0, 1), (1, 1)]) (z := #[Z.u 0, Z.u 0]) (by kernel_rfl) (by (simp [eH, splice, fO, Value.cells]; rfl))) ?_
 refine dG (e := 142) (m := 2) (z := #[Z.u 0, Z.u 0]) (by kernel_rfl) (by kernel_rfl) (by rfl) (by decide) (by (simp [eH, splice, fO, Value.cells]; rfl)) (fun b2 w2 e2 ay _ U2 => ?_)
 have fD : w.heap.size ≤ b2 := by have := hF.size; omega
 replace hF := hF.go0 U2
 (subst_vars; exact ⟨_, rfl, _, _, rfl, hF, Rd.of_block (by assumption), wC.of_block (by assumption)⟩)
 refine aH ?_
 refine az (dh _ _ _ _ _) (fun h4 => ?_) (fun h4 => ?_)
 refine aK ?_
 refine ak (bF (l := [(0, 1), (1, 1)]) (z := #[Z.u 0, Z.u 0]) (by kernel_rfl) (by (simp [eH, splice, fO, Value.cells]; rfl))) ?_
 refine ak (bF (l := [(0, 1), (1, 1)]) (z := #[Z.u 0, Z.u 0]) (by kernel_rfl) (by (simp [eH, splice, fO, Value.cells]; rfl))) ?_
 refine ak (bF (l := [(0, 1), (1, 1)]) (z := #[Z.u 0, Z.u 0]) (by kernel_rfl) (by (simp [eH, splice, fO, Value.cells]; rfl))) ?_
 refine ak (bF (l := [(0, 1), (1, 1)]) (z := #[Z.u 0, Z.u 0]) (by kernel_rfl) (by (simp [eH, splice, fO, Value.cells]; rfl))) ?_
 refine ak (bF (l := [(0, 1), (1, 1)]) (z := #[Z.u 0, Z.u 0]) (by kernel_rfl) (by (simp [eH, splice, fO, Value.cells]; rfl))) ?_
 refine ak (bF (l := [(0, 1), (1, 1)]) (z := #[Z.u 0, Z.u 0]) (by kernel_rfl) (by (simp [eH, splice, fO, Value.cells]; rfl))) ?_
 refine dG (e := 142) (m := 2) (z := #[Z.u 0, Z.u 0]) (by kernel_rfl) (by kernel_rfl) (by rfl) (by decide) (by (simp [eH, splice, fO, Value.cells]; rfl)) (fun b5 w5 e5 cO _ U5 => ?_)
 have iM : w.heap.size ≤ b5 := by have := hF.size; omega
 replace hF := hF.go0 U5
 (subst_vars; exact ⟨_, rfl, _, _, rfl, hF, Rd.of_block (by assumption), wC.of_block (by assumption)⟩)
 refine aH ?_
 exact ⟨_, rfl, none, 0, by simp [Gs.lS, *], hF, by simp [Gs.lS, *, JX, Rd.nil], .inl (by simp [Gs.lS, *, JX])⟩
theorem FM {page b : Int} {w : World} (h0 : 0 ≤ b := by omega) (h1 : b < 256 := by omega) :
    oX 39 #[Z.i page, Z.u b] w fun e w' => e = .returned (.int .i32 (Gs.sign page b)) ∧ aB no w w' := by
 refine F39.calls ?_
 unfold F39
 have l_plain := Gs.Uc
 have l_sw := Gs.afz page
 have hF : aB no w w := Fr.refl _ _ _
 refine bQ (fun g w' => ((Gs.lS page).find? (fun p => p.1 == b) = none) ∧ (aB no w w')) (fun J1 hJ1 => ?_) (fun gJ1 jY hI => ?_)
 refine aI (Vp) (fun v1 w1 D1 => ?_)
 obtain ⟨A8, c8, rfl, U1, rd8, gA8⟩ := D1
 refine ak (gK (by kernel_rfl) _ _ _) ?_
 refine eG (fun g w' => ∃ (k : Nat), (g 10 = Z.i (k : Int)) ∧ (k ≤ (Gs.lS page).length) ∧ (((Gs.lS page).take k).find? (fun p => p.1 == b) = none) ∧ (Rd w' A8 (JX (Gs.lS page))) ∧ (aB no w w')) (fun g w' => (Gs.lS page).length - (RowKit.intOf (g 10)).toNat) ?_ (fun g2 qW hI => ?_)
 replace hF := hF.go0 U1
 exact ⟨0, (by rfl), Nat.zero_le _, rfl, rd8, hF⟩
 replace hF := hF.go0 U1
 obtain ⟨k, g10, hk, hall, rd8, hF⟩ := hI
 rw [g10]
 refine az (lss _ _ _ _) (fun h2 => ?_) (fun h2 => ?_)
 refine aK ?_
 have hk3 : k < ((Gs.lS page)).length := by omega
 obtain ⟨p3, hp3⟩ : ∃ p, ((Gs.lS page))[k]? = some p := ⟨_, List.getElem?_eq_getElem hk3⟩
 refine Sm (m := 2) (by kernel_rfl) (by kernel_rfl) rd8 (by decide) (aar _).symm (by omega) (by omega) (alj _ _ p3 (by simpa using hp3)) ?_
 obtain ⟨q1, q2, q3, q4, q5⟩ := Gs.afA hp3
 refine Z.n (#[Z.u 0, Z.u 0]) (fun b4 w4 e4 eP _ U4 => ?_)
 have adb := rd8.apart e4
 have nO : w.heap.size ≤ b4 := by have := hF.size; omega
 refine iD (n := 2) (by kernel_rfl) (by rfl) (by (simp [Value.cells, Value.oneCell']; done)) eP (Nat.le_of_ble_eq_true rfl) (by (simp; rfl)) (fun w5 eP _ U5 => ?_)
 refine Z.f 0 ?_
 refine Z.l eP ?_
 refine az (dh _ _ _ _ _) (fun h6 => ?_) (fun h6 => ?_)
 refine aK ?_
 refine Z.f 1 ?_
 refine Z.l eP ?_
 refine ak (NV (by kernel_rfl) (by kernel_rfl) (by omega)) ?_
 replace hF := (hF.go0 U4).go1 U5 nO
 exact ⟨oO (Gs.adc (ade hp3 hall (by simpa using by assumption))), hF⟩
 refine aH ?_
 refine ak (dJ _ (by omega)) ?_
 replace rd8 := (rd8.ai U4).aF U5 adb
 replace hF := (hF.go0 U4).go1 U5 nO
 exact ⟨⟨k + 1, (by rfl), by omega, (EI hp3 hall (by simpa using by assumption)), rd8, hF⟩, cnt_lt (by rfl) rfl (by omega)⟩
 refine aH ?_
 refine hJ1 _ _ ?_
 exact ⟨(by rw [← hall, List.take_of_length_le (by omega)]), hF⟩
 obtain ⟨hnone, hF⟩ := hI
 refine aA (Vm) (fun w8 U8 => ?_)
 refine aas (n := 256) (by kernel_rfl) (by assumption) (by omega) (by omega) (fun x9 hx9 => ?_)
 have q := Gs.adf hx9
 refine ak (NV (by kernel_rfl) (by kernel_rfl) (by omega)) ?_
 replace hF := hF.go0 U8
 exact ⟨oO (Gs.adg hnone hx9), hF⟩
section
variable (R : Ending → World → Prop) (w : World)
set_option maxRecDepth 100000
def F29 (a0 a1 : Value) : Prop :=
 oC 66 #[a0, a1, (Z.i (-1))] w R fun t7 w =>
 R (.returned t7) w
theorem F29.calls {R w a0 a1} : F29 R w a0 a1 → oX 29 #[a0, a1] w R := Z.k [0,1,4]
end
theorem pV {x : Int} {w : World} (hx : 0 ≤ x ∧ x ≤ 255) :
    oX 136 #[Z.u x] w fun e w' => e = .returned (.bool (decide (x / 32 % 2 = 1))) ∧ aB no w w' := by
 refine aa3.calls ?_
 unfold aa3
 have hF : aB no w w := Fr.refl _ _ _
 refine ak (aiY _ (by omega)) ?_
 refine ak (jO _ _ _ _ _) ?_
 exact ⟨Ak (by omega), hF⟩
theorem EL {x : Int} {w : World} (hx : 0 ≤ x ∧ x ≤ 255) :
    oX 140 #[Z.u x] w fun e w' => e = .returned (.bool (decide (x % 2 = 1))) ∧ aB no w w' := by
 refine aa6.calls ?_
 unfold aa6
 have hF : aB no w w := Fr.refl _ _ _
 refine ak (UG _ (by omega)) ?_
 refine ak (jO _ _ _ _ _) ?_
 exact ⟨Ak (by omega), hF⟩
theorem PM {x : Int} {w : World} (hx : 0 ≤ x ∧ x ≤ 255) :
    oX 137 #[Z.u x, .bool true] w fun e w' => e = .returned (Z.u (x - x % 2 + 1)) ∧ aB no w w' := by
 refine QV.calls ?_
 unfold QV
 have hF : aB no w w := Fr.refl _ _ _
 refine aK ?_
 refine ak (aog _ (by omega)) ?_
 exact ⟨rfl, hF⟩
theorem EM {x : Int} {w : World} (hx : 0 ≤ x ∧ x ≤ 255) :
    oX 137 #[Z.u x, .bool false] w fun e w' => e = .returned (Z.u (x - x % 2)) ∧ aB no w w' := by
 refine QV.calls ?_
 unfold QV
 have hF : aB no w w := Fr.refl _ _ _
 refine aH ?_
 refine ak (acY _ (by omega)) ?_
 exact ⟨rfl, hF⟩
theorem GH {r c cur : Int} {A : Option Addr} {n cp bp B0 : Nat} {cs : List Gs.Cell} {w : World} (ag : Z.h w bp #[Z.i r, Z.i c, .slice A n cp, Z.i cur] 91) (ae : Own B0 w 37 5 (.slice A n cp) (rows Gs.cv cs)) (hn : n = cs.length) {i : Int} (hN : Gs.aY r c = n) (hb : n ≤ 4096) :
    oX 66 #[Z.p bp, Z.i i, Z.i 1] w fun e w' => e = .returned (Z.i (Gs.lU cs i 1)) ∧ aB no w w' := by
 refine YS.calls ?_
 unfold YS
 subst hn
 have hF : aB no w w := Fr.refl _ _ _
 refine az (lss _ _ _ _) (fun h1 => ?_) (fun h1 => ?_)
 refine bg (bg (bg (bg (aU (aK ?_)))))
 exact ⟨oO (Gs.AL (by omega)).symm, hF⟩
 refine aW (aW (aW ?_))
 refine aA (fH ag ae rfl) (fun w3 U3 => ?_)
 refine aW ?_
 refine az (geq _ _ _ _) (fun h4 => ?_) (fun h4 => ?_)
 refine aQ (aK ?_)
 replace hF := hF.go0 U3
 exact ⟨oO (Gs.AL (by omega)).symm, hF⟩
 refine aQ (aH ?_)
 refine bQ (fun g w' => (Gs.yx cs i 1 cs.length) ∧ (aB no w w')) (fun J1 hJ1 => ?_) (fun gJ1 jY hI => ?_)
 replace ae := ae.ai U3
 replace ag := U3.af ag
 refine aA (fH ag ae rfl) (fun w6 U6 => ?_)
 refine eG (fun g w' => ∃ (k : Nat), (g 19 = Z.i (k : Int)) ∧ (k ≤ cs.length) ∧ (Gs.yx cs i 1 k) ∧ (Z.h w' bp #[Z.i r, Z.i c, .slice A cs.length cp, Z.i cur] 91) ∧ (Own B0 w' 37 5 (.slice A cs.length cp) (rows Gs.cv cs)) ∧ (aB no w w')) (fun g w' => cs.length - (RowKit.intOf (g 19)).toNat) ?_ (fun g2 qW hI => ?_)
 replace hF := (hF.go0 U3).go0 U6
 replace ae := ae.ai U6
 replace ag := U6.af ag
 exact ⟨0, (by rfl), Nat.zero_le _, (Gs.YT _ _ _), ag, ae, hF⟩
 replace hF := (hF.go0 U3).go0 U6
 replace ae := ae.ai U6
 replace ag := U6.af ag
 obtain ⟨k, g19, hk, hno, ag, ae, hF⟩ := hI
 rw [g19]
 refine az (lss _ _ _ _) (fun h7 => ?_) (fun h7 => ?_)
 refine aK ?_
 refine aA (kP ag ae rfl) (fun w8 U8 => ?_)
 refine ak (Gx _ (by omega)) ?_
 refine aA (nI (i := i) (j := (k : Int) * 1)) (fun w9 U9 => ?_)
 rw [hN, Gs.uf (by omega)]
 replace ae := (ae.ai U8).ai U9
 replace ag := U9.af (U8.af ag)
 refine aA (gy ag ae rfl (i := (i + (k : Int) * 1) % (cs.length : Int))) (fun w10 aX => ?_)
 refine oJ (qo (off := 2) (by kernel_rfl) (by rfl)) (fun h11 => ?_) (fun h11 => ?_)
 refine aK ?_
 replace hF := ((hF.go0 U8).go0 U9).go0 aX
 exact ⟨oO (Gs.LQ (by omega) hno (by omega) (by assumption)).symm, hF⟩
 refine aH ?_
 refine ak (dJ _ (by omega)) ?_
 replace hF := ((hF.go0 U8).go0 U9).go0 aX
 replace ae := ae.ai aX
 replace ag := aX.af ag
 exact ⟨⟨k + 1, (by rfl), by omega, (Gs.PN hno (by assumption)), ag, ae, hF⟩, cnt_lt (by rfl) rfl (by omega)⟩
 refine aH ?_
 refine hJ1 _ _ ?_
 exact ⟨(by rw [show cs.length = k by omega]; rw [show k = cs.length by omega] at hno ⊢; exact hno), hF⟩
 replace hF := hF.go0 U3
 obtain ⟨hno, hF⟩ := hI
 exact ⟨oO (Gs.SG hno).symm, hF⟩
theorem QW {r c cur : Int} {A : Option Addr} {n cp bp B0 : Nat} {cs : List Gs.Cell} {w : World} (ag : Z.h w bp #[Z.i r, Z.i c, .slice A n cp, Z.i cur] 91) (ae : Own B0 w 37 5 (.slice A n cp) (rows Gs.cv cs)) (hn : n = cs.length) {i : Int} (hN : Gs.aY r c = n) (hb : n ≤ 4096) :
    oX 66 #[Z.p bp, Z.i i, Z.i (-1)] w fun e w' => e = .returned (Z.i (Gs.lU cs i (-1))) ∧ aB no w w' := by
 refine YS.calls ?_
 unfold YS
 subst hn
 have hF : aB no w w := Fr.refl _ _ _
 refine az (lss _ _ _ _) (fun h1 => ?_) (fun h1 => ?_)
 refine bg (bg (bg (bg (aU (aK ?_)))))
 exact ⟨oO (Gs.AL (by omega)).symm, hF⟩
 refine aW (aW (aW ?_))
 refine aA (fH ag ae rfl) (fun w3 U3 => ?_)
 refine aW ?_
 refine az (geq _ _ _ _) (fun h4 => ?_) (fun h4 => ?_)
 refine aQ (aK ?_)
 replace hF := hF.go0 U3
 exact ⟨oO (Gs.AL (by omega)).symm, hF⟩
 refine aQ (aH ?_)
 refine bQ (fun g w' => (Gs.yx cs i (-1) cs.length) ∧ (aB no w w')) (fun J1 hJ1 => ?_) (fun gJ1 jY hI => ?_)
 replace ae := ae.ai U3
 replace ag := U3.af ag
 refine aA (fH ag ae rfl) (fun w6 U6 => ?_)
 refine eG (fun g w' => ∃ (k : Nat), (g 19 = Z.i (k : Int)) ∧ (k ≤ cs.length) ∧ (Gs.yx cs i (-1) k) ∧ (Z.h w' bp #[Z.i r, Z.i c, .slice A cs.length cp, Z.i cur] 91) ∧ (Own B0 w' 37 5 (.slice A cs.length cp) (rows Gs.cv cs)) ∧ (aB no w w')) (fun g w' => cs.length - (RowKit.intOf (g 19)).toNat) ?_ (fun g2 qW hI => ?_)
 replace hF := (hF.go0 U3).go0 U6
 replace ae := ae.ai U6
 replace ag := U6.af ag
 exact ⟨0, (by rfl), Nat.zero_le _, (Gs.YT _ _ _), ag, ae, hF⟩
 replace hF := (hF.go0 U3).go0 U6
 replace ae := ae.ai U6
 replace ag := U6.af ag
 obtain ⟨k, g19, hk, hno, ag, ae, hF⟩ := hI
 rw [g19]
 refine az (lss _ _ _ _) (fun h7 => ?_) (fun h7 => ?_)
 refine aK ?_
 refine aA (kP ag ae rfl) (fun w8 U8 => ?_)
 refine ak (Gx _ (by omega)) ?_
 refine aA (nI (i := i) (j := (k : Int) * (-1))) (fun w9 U9 => ?_)
 rw [hN, Gs.uf (by omega)]
 replace ae := (ae.ai U8).ai U9
 replace ag := U9.af (U8.af ag)
 refine aA (gy ag ae rfl (i := (i + (k : Int) * (-1)) % (cs.length : Int))) (fun w10 aX => ?_)
 refine oJ (qo (off := 2) (by kernel_rfl) (by rfl)) (fun h11 => ?_) (fun h11 => ?_)
 refine aK ?_
 replace hF := ((hF.go0 U8).go0 U9).go0 aX
 exact ⟨oO (Gs.LQ (by omega) hno (by omega) (by assumption)).symm, hF⟩
 refine aH ?_
 refine ak (dJ _ (by omega)) ?_
 replace hF := ((hF.go0 U8).go0 U9).go0 aX
 replace ae := ae.ai aX
 replace ag := aX.af ag
 exact ⟨⟨k + 1, (by rfl), by omega, (Gs.PN hno (by assumption)), ag, ae, hF⟩, cnt_lt (by rfl) rfl (by omega)⟩
 refine aH ?_
 refine hJ1 _ _ ?_
 exact ⟨(by rw [show cs.length = k by omega]; rw [show k = cs.length by omega] at hno ⊢; exact hno), hF⟩
 replace hF := hF.go0 U3
 obtain ⟨hno, hF⟩ := hI
 exact ⟨oO (Gs.SG hno).symm, hF⟩
theorem rD {r c cur : Int} {A : Option Addr} {n cp bp B0 : Nat} {cs : List Gs.Cell} {w : World} (ag : Z.h w bp #[Z.i r, Z.i c, .slice A n cp, Z.i cur] 91) (ae : Own B0 w 37 5 (.slice A n cp) (rows Gs.cv cs)) (hn : n = cs.length) {i : Int} (hN : Gs.aY r c = n) (hb : n ≤ 4096) :
    oX 29 #[Z.p bp, Z.i i] w fun e w' => e = .returned (Z.i (Gs.gY cs i)) ∧ aB no w w' := by
 refine F29.calls ?_
 unfold F29
 have hF : aB no w w := Fr.refl _ _ _
 refine aA (QW ag ae hn hN hb (i := i)) (fun w1 U1 => ?_)
 replace hF := hF.go0 U1
 exact ⟨rfl, hF⟩
theorem Uh {r c cur : Int} {A : Option Addr} {n cp bp B0 : Nat} {cs : List Gs.Cell} {w : World} (ag : Z.h w bp #[Z.i r, Z.i c, .slice A n cp, Z.i cur] 91) (ae : Own B0 w 37 5 (.slice A n cp) (rows Gs.cv cs)) (hn : n = cs.length) {i : Int} (hN : Gs.aY r c = n) (hb : n ≤ 4096) :
    oX 173 #[Z.p bp, Z.i i] w fun e w' => e = .returned (Z.i (Gs.uS cs i)) ∧ aB no w w' := by
 refine abe.calls ?_
 unfold abe
 subst hn
 have hF : aB no w w := Fr.refl _ _ _
 refine az (lss _ _ _ _) (fun h1 => ?_) (fun h1 => ?_)
 refine bg (bg (bg (bg (aU (aK ?_)))))
 exact ⟨oO (Gs.YU (by omega)).symm, hF⟩
 refine aW (aW (aW ?_))
 refine aA (fH ag ae rfl) (fun w3 U3 => ?_)
 refine aW ?_
 refine az (geq _ _ _ _) (fun h4 => ?_) (fun h4 => ?_)
 refine aQ (aK ?_)
 replace hF := hF.go0 U3
 exact ⟨oO (Gs.YU (by omega)).symm, hF⟩
 refine aQ (aH ?_)
 replace ae := ae.ai U3
 replace ag := U3.af ag
 refine aA (kP ag ae rfl) (fun w6 U6 => ?_)
 refine aA (nI (i := i) (j := 1)) (fun w7 U7 => ?_)
 rw [hN, Gs.uf (by omega)]
 replace ae := (ae.ai U6).ai U7
 replace ag := U7.af (U6.af ag)
 refine aA (GH ag ae rfl hN hb (i := (i + 1) % (cs.length : Int))) (fun w8 U8 => ?_)
 replace hF := (((hF.go0 U3).go0 U6).go0 U7).go0 U8
 exact ⟨oO (Gs.adq (by omega)).symm, hF⟩
theorem xQ {r c cur : Int} {A : Option Addr} {n cp bp B0 : Nat} {cs : List Gs.Cell} {w : World} (ag : Z.h w bp #[Z.i r, Z.i c, .slice A n cp, Z.i cur] 91) (ae : Own B0 w 37 5 (.slice A n cp) (rows Gs.cv cs)) (hn : n = cs.length) (hN : Gs.aY r c = n) (hb : n ≤ 4096) :
    oX 61 #[Z.p bp] w fun e w' => e = .returned (.bool (decide (0 ≤ Gs.lU cs 0 1))) ∧ aB no w w' := by
 refine F61.calls ?_
 unfold F61
 have hF : aB no w w := Fr.refl _ _ _
 refine aA (GH ag ae hn hN hb (i := 0)) (fun w1 U1 => ?_)
 refine ak (geq _ _ _ _) ?_
 replace hF := hF.go0 U1
 exact ⟨Ak (by omega), hF⟩
theorem PO {r c cur : Int} {A : Option Addr} {n cp bp B0 : Nat} {cs : List Gs.Cell} {w : World} (ag : Z.h w bp #[Z.i r, Z.i c, .slice A n cp, Z.i cur] 91) (ae : Own B0 w 37 5 (.slice A n cp) (rows Gs.cv cs)) (hn : n = cs.length) {i : Int} (hN : Gs.aY r c = n) (hb : n ≤ 4096)(hcw : Gs.je cs) (hi : 0 ≤ i ∧ i < cs.length) :
    oX 154 #[Z.p bp, Z.i i] w fun e w' => e = .returned (.agg (Gs.fv (Gs.lG cs i)).toArray) ∧ aB no w w' := by
 refine aa9.calls ?_
 unfold aa9
 subst hn
 have hab := Gs.alH hi
 have hgw := Gs.sO hcw i
 have hF : aB no w w := Fr.refl _ _ _
 refine Z.n ((Gs.fv Gs.zf).toArray) (fun b1 w1 e1 ah _ U1 => ?_)
 have bY : w.heap.size ≤ b1 := by have := hF.size; omega
 replace ae := ae.ai U1
 replace ag := U1.af ag
 refine aA (Uh ag ae rfl hN hb (i := i)) (fun w2 U2 => ?_)
 refine ak (yS _ (by omega)) ?_
 refine ak (yS _ (by omega)) ?_
 refine bQ (fun g w' => (g 5 = Z.i (Gs.wU cs i)) ∧ (Z.h w' bp #[Z.i r, Z.i c, .slice A cs.length cp, Z.i cur] 91) ∧ (Own B0 w' 37 5 (.slice A cs.length cp) (rows Gs.cv cs)) ∧ (Z.h w' b1 ((Gs.fv Gs.zf).toArray) 173) ∧ (aB no w w')) (fun J1 hJ1 => ?_) (fun gJ1 jY hI => ?_)
 refine az (lss _ _ _ _) (fun h3 => ?_) (fun h3 => ?_)
 refine aK ?_
 replace ae := ae.ai U2
 replace ag := U2.af ag
 refine aA (fH ag ae rfl) (fun w4 U4 => ?_)
 refine ak (dJ _ (by omega)) ?_
 refine hJ1 _ _ ?_
 replace hF := ((hF.go0 U1).go0 U2).go0 U4
 replace ah := U4.af (U2.af ah)
 replace ae := ae.ai U4
 replace ag := U4.af ag
 exact ⟨(by exact congrArg (Value.int .i64) (Gs.alI (by assumption))), ag, ae, ah, hF⟩
 refine aH ?_
 refine hJ1 _ _ ?_
 replace hF := (hF.go0 U1).go0 U2
 replace ae := ae.ai U2
 replace ag := U2.af ag
 replace ah := U2.af ah
 exact ⟨(by exact congrArg (Value.int .i64) (Gs.alJ (by assumption))), ag, ae, ah, hF⟩
 replace hF := (hF.go0 U1).go0 U2
 replace ae := ae.ai U2
 replace ag := U2.af ag
 replace ah := U2.af ah
 obtain ⟨g5, ag, ae, ah, hF⟩ := hI
 rw [g5]
 refine aA (gy ag ae rfl (i := i)) (fun w5 U5 => ?_)
 refine ak (qo (off := 0) (by kernel_rfl) (by rfl)) ?_
 refine ak (Dz _ (by omega)) ?_
 refine ak (bF (l := [(0, 1), (1, 1), (2, 1)]) (z := #[Z.i 0, Z.i 0, Z.u 0]) (by kernel_rfl) (by (simp [eH, splice, fO, Value.cells, Gs.cv, Gs.fv]; rfl))) ?_
 replace ah := U5.af ah
 refine iD (n := 3) (by kernel_rfl) (by rfl) (by (simp [Value.cells, Value.oneCell', Gs.cv, Gs.fv]; done)) ah (Nat.le_of_ble_eq_true rfl) (by (simp; rfl)) (fun w6 ah _ U6 => ?_)
 refine Z.a 3 ah ?_
 replace hF := (hF.go0 U5).go1 U6 bY
 exact ⟨rfl, hF⟩
theorem sN {r c cur : Int} {A : Option Addr} {n cp bp B0 : Nat} {cs : List Gs.Cell} {w : World} (ag : Z.h w bp #[Z.i r, Z.i c, .slice A n cp, Z.i cur] 91) (ae : Own B0 w 37 5 (.slice A n cp) (rows Gs.cv cs)) (hn : n = cs.length) {i : Int} (hN : Gs.aY r c = n) (hb : n ≤ 4096)(hcw : Gs.je cs)  :
    oX 116 #[Z.p bp, Z.i i] w fun e w' => e = .returned (.tuple #[.agg (Gs.fv (Gs.mX cs i)).toArray, .bool (Gs.mD cs i)]) ∧ aB no w w' := by
 refine aaV.calls ?_
 unfold aaV
 subst hn
 have hF : aB no w w := Fr.refl _ _ _
 refine Z.n ((Gs.fv Gs.zf).toArray) (fun b1 w1 e1 ah _ U1 => ?_)
 have bY : w.heap.size ≤ b1 := by have := hF.size; omega
 replace ae := ae.ai U1
 replace ag := U1.af ag
 refine aA (rD ag ae rfl hN hb (i := i)) (fun w2 U2 => ?_)
 refine az (lss _ _ _ _) (fun h3 => ?_) (fun h3 => ?_)
 refine aK ?_
 refine ak (bF (l := [(0, 1), (1, 1), (2, 1)]) (z := #[Z.i 0, Z.i 0, Z.u 0]) (cs := (Gs.fv Gs.zf)) (by kernel_rfl) (by rfl)) ?_
 replace ah := U2.af ah
 refine Z.t 3 ((Gs.fv Gs.zf).toArray) (by (simp [Value.cells, Value.oneCell', Gs.cv, Gs.fv]; done)) ah (fun w4 ah _ U4 => ?_)
 refine Z.a 3 ah ?_
 replace hF := ((hF.go0 U1).go0 U2).go1 U4 bY
 exact ⟨Gs.alK (by assumption), hF⟩
 refine aH ?_
 replace ae := ae.ai U2
 replace ag := U2.af ag
 refine aA (PO ag ae rfl hN hb hcw (i := Gs.gY cs i) (Gs.QX (by assumption))) (fun w6 U6 => ?_)
 replace ah := U6.af (U2.af ah)
 refine Z.t 3 ((Gs.fv (Gs.lG cs (Gs.gY cs i))).toArray) (by (simp [Value.cells, Value.oneCell', Gs.cv, Gs.fv]; done)) ah (fun w7 ah _ U7 => ?_)
 refine Z.a 3 ah ?_
 replace hF := (((hF.go0 U1).go0 U2).go0 U6).go1 U7 bY
 exact ⟨Gs.alL (by assumption), hF⟩
theorem oZ {r c cur : Int} {A : Option Addr} {n cp bp B0 : Nat} {cs : List Gs.Cell} {w : World} (ag : Z.h w bp #[Z.i r, Z.i c, .slice A n cp, Z.i cur] 91) (ae : Own B0 w 37 5 (.slice A n cp) (rows Gs.cv cs)) (hn : n = cs.length) {i : Int} (hN : Gs.aY r c = n) (hb : n ≤ 4096)(hcw : Gs.je cs)  :
    oX 117 #[Z.p bp, Z.i i] w fun e w' => e = .returned (.bool (Gs.jI cs i)) ∧ aB no w w' := by
 refine aaW.calls ?_
 unfold aaW
 subst hn
 have hF : aB no w w := Fr.refl _ _ _
 refine aA (sN ag ae rfl hN hb hcw (i := i)) (fun w1 U1 => ?_)
 refine Z.e ?_
 refine Z.e ?_
 refine Z.n ((Gs.fv Gs.zf).toArray) (fun b2 w2 e2 ay _ U2 => ?_)
 replace ag := U1.af ag
 have fF : bp ≠ b2 := by have := aj ag; omega
 replace ae := ae.ai U1
 have dN := ae.apart e2
 replace hF := hF.go0 U1
 have fD : w.heap.size ≤ b2 := by have := hF.size; omega
 refine Z.t 3 ((Gs.fv (Gs.mX cs i)).toArray) (by (simp [Value.cells, Value.oneCell', Gs.cv, Gs.fv]; done)) ay (fun w3 ay _ U3 => ?_)
 refine ak (BV _) ?_
 refine kL (fun h4 => ?_) (fun h4 => ?_)
 refine az (geq _ _ _ _) (fun h5 => ?_) (fun h5 => ?_)
 refine aV (aV (aV ?_))
 replace ae := (ae.ai U2).aF U3 dN
 replace ag := U3.au (U2.af ag) fF
 refine aA (fH ag ae rfl) (fun w6 U6 => ?_)
 refine aV ?_
 refine ak (lss _ _ _ _) ?_
 refine aU ?_
 have hob : Gs.mD cs i = false ∨ Gs.mD cs i = true := by cases Gs.mD cs i <;> simp
 replace hF := ((hF.go0 U2).go1 U3 fD).go0 U6
 rw [Gs.YV (by simp_all)]; exact ⟨Ak (by omega), hF⟩
 refine aP (aP (aP (aP (aQ ?_))))
 have hob : Gs.mD cs i = false ∨ Gs.mD cs i = true := by cases Gs.mD cs i <;> simp
 replace hF := (hF.go0 U2).go1 U3 fD
 rw [Gs.YV (by simp_all)]; exact ⟨NU (by omega), hF⟩
 refine Z.f 0 ?_
 refine Z.l ay ?_
 refine az (jO _ _ _ _ _) (fun h9 => ?_) (fun h9 => ?_)
 refine aV ?_
 refine Z.f 2 ?_
 refine aV ?_
 refine Z.l ay ?_
 refine aV ?_
 refine aA (pV (Gs.aay hcw i)) (fun w10 aX => ?_)
 refine aV ?_
 refine ak (BV _) ?_
 refine aU ?_
 have hob : Gs.mD cs i = false ∨ Gs.mD cs i = true := by cases Gs.mD cs i <;> simp
 replace hF := ((hF.go0 U2).go1 U3 fD).go0 aX
 rw [Gs.afI (by simp_all) (by assumption)]; exact ⟨rfl, hF⟩
 refine aP (aP (aP (aP (aQ ?_))))
 have hob : Gs.mD cs i = false ∨ Gs.mD cs i = true := by cases Gs.mD cs i <;> simp
 replace hF := (hF.go0 U2).go1 U3 fD
 rw [Gs.adr (by simp_all) (by assumption)]; exact ⟨rfl, hF⟩
theorem Ob {r c cur : Int} {A : Option Addr} {n cp bp B0 : Nat} {cs : List Gs.Cell} {w : World} (ag : Z.h w bp #[Z.i r, Z.i c, .slice A n cp, Z.i cur] 91) (ae : Own B0 w 37 5 (.slice A n cp) (rows Gs.cv cs)) (hn : n = cs.length) {i : Int} (hN : Gs.aY r c = n) (hb : n ≤ 4096)(hcw : Gs.je cs) (hi : 0 ≤ i ∧ i < cs.length) :
    oX 123 #[Z.p bp, Z.i i, .bool true] w fun e w' => ∃ v, e = .returned v ∧ Own B0 w' 37 5 (.slice A n cp) (rows Gs.cv (Gs.rO true cs i)) ∧ aB (aG (.slice A n cp)) w w' := by
 refine QU.calls ?_
 unfold QU
 have hgw := Gs.sO hcw i
 have hF : aB (aG (.slice A n cp)) w w := Fr.refl _ _ _
 refine aA (gy ag ae hn (i := i)) (fun w1 U1 => ?_)
 refine Z.n ((Gs.cv Gs.zc).toArray) (fun b2 w2 e2 ay _ U2 => ?_)
 replace ag := U1.af ag
 have fF : bp ≠ b2 := by have := aj ag; omega
 replace ae := ae.ai U1
 have dN := ae.apart e2
 replace hF := hF.go0 U1
 have fD : w.heap.size ≤ b2 := by have := hF.size; omega
 refine Z.t 5 ((Gs.cv (Gs.bH cs i)).toArray) (by (simp [Value.cells, Value.oneCell', Gs.cv, Gs.fv]; done)) ay (fun w3 ay _ U3 => ?_)
 refine Z.f 0 ?_
 refine Z.l ay ?_
 refine aA (PM hgw) (fun w4 U4 => ?_)
 refine Z.f 0 ?_
 replace ay := U4.af ay
 refine Z.s ay (fun w5 ay _ U5 => ?_)
 refine Z.b 5 _ ay ?_
 replace ae := (((ae.ai U2).aF U3 dN).ai U4).aF U5 dN
 replace ag := U5.au (U4.af (U3.au (U2.af ag) fF)) fF
 refine aI (jZ ag ae hn (i := i) (x := Gs.AB true (Gs.bH cs i))) (fun v6 w6 D6 => ?_)
 obtain ⟨rfl, N6, U6⟩ := D6
 replace ae := N6
 replace hF := (((hF.go0 U2).go1 U3 fD).go0 U4).go1 U5 fD
 replace hF := hF.go U6 (fun i h hs => by exact hs)
 exact ⟨_, rfl, ae, hF⟩
theorem Oc {r c cur : Int} {A : Option Addr} {n cp bp B0 : Nat} {cs : List Gs.Cell} {w : World} (ag : Z.h w bp #[Z.i r, Z.i c, .slice A n cp, Z.i cur] 91) (ae : Own B0 w 37 5 (.slice A n cp) (rows Gs.cv cs)) (hn : n = cs.length) {i : Int} (hN : Gs.aY r c = n) (hb : n ≤ 4096)(hcw : Gs.je cs) (hi : 0 ≤ i ∧ i < cs.length) :
    oX 123 #[Z.p bp, Z.i i, .bool false] w fun e w' => ∃ v, e = .returned v ∧ Own B0 w' 37 5 (.slice A n cp) (rows Gs.cv (Gs.rO false cs i)) ∧ aB (aG (.slice A n cp)) w w' := by
 refine QU.calls ?_
 unfold QU
 have hgw := Gs.sO hcw i
 have hF : aB (aG (.slice A n cp)) w w := Fr.refl _ _ _
 refine aA (gy ag ae hn (i := i)) (fun w1 U1 => ?_)
 refine Z.n ((Gs.cv Gs.zc).toArray) (fun b2 w2 e2 ay _ U2 => ?_)
 replace ag := U1.af ag
 have fF : bp ≠ b2 := by have := aj ag; omega
 replace ae := ae.ai U1
 have dN := ae.apart e2
 replace hF := hF.go0 U1
 have fD : w.heap.size ≤ b2 := by have := hF.size; omega
 refine Z.t 5 ((Gs.cv (Gs.bH cs i)).toArray) (by (simp [Value.cells, Value.oneCell', Gs.cv, Gs.fv]; done)) ay (fun w3 ay _ U3 => ?_)
 refine Z.f 0 ?_
 refine Z.l ay ?_
 refine aA (EM hgw) (fun w4 U4 => ?_)
 refine Z.f 0 ?_
 replace ay := U4.af ay
 refine Z.s ay (fun w5 ay _ U5 => ?_)
 refine Z.b 5 _ ay ?_
 replace ae := (((ae.ai U2).aF U3 dN).ai U4).aF U5 dN
 replace ag := U5.au (U4.af (U3.au (U2.af ag) fF)) fF
 refine aI (jZ ag ae hn (i := i) (x := Gs.AB false (Gs.bH cs i))) (fun v6 w6 D6 => ?_)
 obtain ⟨rfl, N6, U6⟩ := D6
 replace ae := N6
 replace hF := (((hF.go0 U2).go1 U3 fD).go0 U4).go1 U5 fD
 replace hF := hF.go U6 (fun i h hs => by exact hs)
 exact ⟨_, rfl, ae, hF⟩
theorem wP {r c cur : Int} {A : Option Addr} {n cp bp B0 : Nat} {cs : List Gs.Cell} {w : World} (ag : Z.h w bp #[Z.i r, Z.i c, .slice A n cp, Z.i cur] 91) (ae : Own B0 w 37 5 (.slice A n cp) (rows Gs.cv cs)) (hn : n = cs.length) {i : Int} (hN : Gs.aY r c = n) (hb : n ≤ 4096)(hcw : Gs.je cs)  :
    oX 73 #[Z.p bp, Z.i i] w fun e w' => ∃ v, e = .returned v ∧ v = .bool (decide (¬ Gs.gY cs i < 0)) ∧ Own B0 w' 37 5 (.slice A n cp) (rows Gs.cv (Gs.lT cs i)) ∧ aB (aG (.slice A n cp)) w w' := by
 refine F73.calls ?_
 unfold F73
 have hF : aB (aG (.slice A n cp)) w w := Fr.refl _ _ _
 refine aA (rD ag ae hn hN hb (i := i)) (fun w1 U1 => ?_)
 refine az (lss _ _ _ _) (fun h2 => ?_) (fun h2 => ?_)
 refine aK ?_
 replace ae := ae.ai U1
 replace hF := hF.go0 U1
 exact ⟨_, rfl, by rw [decide_eq_false (by omega)], by rw [Gs.QT (by assumption)]; exact ae, hF⟩
 refine aH ?_
 replace ae := ae.ai U1
 replace ag := U1.af ag
 refine aI (Ob ag ae hn hN hb hcw (i := Gs.gY cs i) (Gs.QX (by assumption))) (fun v4 w4 D4 => ?_)
 obtain ⟨N4, U4⟩ := D4
 replace ae := N4
 replace hF := hF.go0 U1
 replace hF := hF.go U4 (fun i h hs => by exact hs)
 exact ⟨_, rfl, by rw [decide_eq_true (by assumption)], by rw [Gs.VV (by assumption)]; exact ae, hF⟩
theorem Bf {r c cur : Int} {A : Option Addr} {n cp bp B0 : Nat} {cs : List Gs.Cell} {w : World} (ag : Z.h w bp #[Z.i r, Z.i c, .slice A n cp, Z.i cur] 91) (ae : Own B0 w 37 5 (.slice A n cp) (rows Gs.cv cs)) (hn : n = cs.length)  :
    oX 135 #[Z.p bp] w fun e w' => ∃ v, e = .returned v ∧ ∃ b1, v = .func (.func 158) #[] #[Z.p b1] ∧ w.heap.size ≤ b1 ∧ Z.h w' b1 #[Z.p bp] 33 ∧ aB no w w' := by
 refine aa2.calls ?_
 unfold aa2
 have hF : aB no w w := Fr.refl _ _ _
 refine Z.x _ (fun b1 w1 e1 ah _ U1 => ?_)
 have bY : w.heap.size ≤ b1 := by have := hF.size; omega
 refine ak (mkF _ _ _) ?_
 replace hF := hF.go0 U1
 exact ⟨_, rfl, b1, rfl, bY, ah, hF⟩
theorem Aw {r c cur : Int} {A : Option Addr} {n cp bp B0 : Nat} {cs : List Gs.Cell} {w : World} (ag : Z.h w bp #[Z.i r, Z.i c, .slice A n cp, Z.i cur] 91) (ae : Own B0 w 37 5 (.slice A n cp) (rows Gs.cv cs)) (hn : n = cs.length) {f : Gs.su} :
    oX 141 #[Z.p bp, .agg (Gs.fv f).toArray] w fun e w' => ∃ v, e = .returned v ∧ ∃ b1 b2, v = .func (.func 161) #[] #[Z.p b2, Z.p b1] ∧ w.heap.size ≤ b1 ∧ w.heap.size ≤ b2 ∧ Z.h w' b1 #[Z.p bp] 33 ∧ Z.h w' b2 ((Gs.fv f).toArray) 173 ∧ aB no w w' := by
 refine aa7.calls ?_
 unfold aa7
 have hF : aB no w w := Fr.refl _ _ _
 refine Z.x _ (fun b1 w1 e1 ah _ U1 => ?_)
 have bY : w.heap.size ≤ b1 := by have := hF.size; omega
 refine Z.x ((Gs.fv f).toArray) (fun b2 w2 e2 ay _ U2 => ?_)
 replace hF := hF.go0 U1
 have fD : w.heap.size ≤ b2 := by have := hF.size; omega
 refine ak (mkF _ _ _) ?_
 replace ah := U2.af ah
 replace hF := hF.go0 U2
 exact ⟨_, rfl, b1, b2, rfl, bY, fD, ah, ay, hF⟩
theorem yz {r c cur : Int} {A : Option Addr} {n cp bp B0 b1 : Nat} {csF : Nat → List Gs.Cell} {y : Value} {J : Nat → World → Prop} {X : World → Prop} {w : World} (hcap : ∀ k w', J k w' → Z.h w' b1 #[Z.p bp] 33 ∧ Z.h w' bp #[Z.i r, Z.i c, .slice A n cp, Z.i cur] 91 ∧ Own B0 w' 37 5 (.slice A n cp) (rows Gs.cv (csF k))) (hst : ∀ k w' w'', J k w' → aB no w' w'' → J k w'') (hsx : ∀ w' w'', X w' → aB no w' w'' → X w'') (hlen : ∀ k, n = (csF k).length) (hw : ∀ k, Gs.je (csF k)) (hst0 : ∀ k i, Gs.stB (csF k) i = Gs.stB (csF 0) i) (hN : Gs.aY r c = n) (hb : n ≤ 4096) (hy : ∀ k w' (s : Nat), (Gs.dm (csF 0))[k]? = some s → J k w' → Gy Tryz.prog y #[.agg (Gs.fv (Gs.lG (csF k) s)).toArray] w' (J (k + 1)) X) (h0 : J 0 w) :
    oX 158 #[y, Z.p b1] w fun e w' => (∃ v, e = .returned v) ∧ (J (Gs.dm (csF 0)).length w' ∨ X w') := by
 refine aba.calls ?_
 unfold aba
 obtain ⟨ah, ag, ae⟩ := hcap _ _ h0
 have hl0 := hlen 0
 refine Z.l ah ?_
 refine aA (fH ag ae (hlen 0)) (fun w1 U1 => ?_)
 replace h0 := hst _ _ _ h0 U1
 refine eG (fun g w' => ∃ k : Nat, k ≤ n ∧ g 6 = Z.i (k : Int) ∧ J (Gs.AO (csF 0) k) w') (fun g w' => n - (RowKit.intOf (g 6)).toNat) ?_ (fun g1 wl1 hI => ?_)
 exact ⟨0, Nat.zero_le _, rfl, h0⟩
 obtain ⟨k, hk, g6, hJ⟩ := hI
 rw [g6]
 replace ae := ae.ai U1
 replace ah := U1.af ah
 replace ag := U1.af ag
 obtain ⟨ah, ag, ae⟩ := hcap _ _ hJ
 refine az (lss _ _ _ _) (fun h2 => ?_) (fun h2 => ?_)
 refine aK ?_
 refine Z.l ah ?_
 refine aA (gy ag ae (hlen _) (i := (k : Int))) (fun w3 U3 => ?_)
 replace hJ := hst _ _ _ hJ U3
 refine oJ (qo (off := 2) (by kernel_rfl) (by rfl)) (fun h4 => ?_) (fun h4 => ?_)
 refine aV (aV ?_)
 replace ah := U3.af ah
 refine Z.l ah ?_
 refine aV (aV ?_)
 replace ae := ae.ai U3
 replace ag := U3.af ag
 refine aA (PO ag ae (hlen _) hN hb (hw _) (i := (k : Int)) ⟨by omega, by rw [← hlen]; omega⟩) (fun w5 U5 => ?_)
 replace hJ := hst _ _ _ hJ U5
 refine aV ?_
 refine Ig (hy _ _ k (Gs.ads (by omega) (by rw [← hst0 (Gs.AO (csF 0) k) k]; assumption)) hJ) (fun wy6 hJ2 => ?_) (fun wy6 hX => ?_)
 replace ae := ae.ai U5
 replace ah := U5.af ah
 replace ag := U5.af ag
 obtain ⟨ah, ag, ae⟩ := hcap _ _ hJ2
 refine aV ?_
 refine ak (jE) ?_
 refine aU (aH ?_)
 refine ak (dJ _ (by omega)) ?_
 exact ⟨⟨k + 1, by omega, rfl, by (rw [Gs.aom (by rw [← hst0 (Gs.AO (csF 0) k) k]; assumption)]; exact hJ2)⟩, cnt_lt (by rfl) rfl (by omega)⟩
 refine aV ?_
 refine ak (mY) ?_
 refine aU (aK ?_)
 exact ⟨⟨_, rfl⟩, .inr hX⟩
 refine aP (aP (aP (aP (aP (aP (aQ (aH ?_)))))))
 refine ak (dJ _ (by omega)) ?_
 exact ⟨⟨k + 1, by omega, rfl, by (rw [Gs.aon (by rw [← hst0 (Gs.AO (csF 0) k) k]; assumption)]; exact hJ)⟩, cnt_lt (by rfl) rfl (by omega)⟩
 refine aH ?_
 exact ⟨⟨_, rfl⟩, .inl (by rw [← Gs.cnt_end, ← hl0, show n = k by omega]; exact hJ)⟩
theorem DR {r c cur : Int} {A : Option Addr} {n cp bp B0 b1 b2 : Nat} {cs : List Gs.Cell} {f : Gs.su} {y : Value} {J : Nat → World → Prop} {X : World → Prop} {w : World} (hcap : ∀ k w', J k w' → Z.h w' b1 #[Z.p bp] 33 ∧ Z.h w' b2 ((Gs.fv f).toArray) 173 ∧ Z.h w' bp #[Z.i r, Z.i c, .slice A n cp, Z.i cur] 91 ∧ Own B0 w' 37 5 (.slice A n cp) (rows Gs.cv cs)) (hst : ∀ k w' w'', J k w' → aB no w' w'' → J k w'') (hsx : ∀ w' w'', X w' → aB no w' w'' → X w'') (hcx : ∀ w', X w' → Z.h w' b1 #[Z.p bp] 33 ∧ Z.h w' b2 ((Gs.fv f).toArray) 173 ∧ Z.h w' bp #[Z.i r, Z.i c, .slice A n cp, Z.i cur] 91 ∧ Own B0 w' 37 5 (.slice A n cp) (rows Gs.cv cs)) (hn : n = cs.length) (hN : Gs.aY r c = n) (hb : n ≤ 4096) (hy : ∀ k w' x, (Gs.iP n f)[k]? = some x → J k w' → Gy Tryz.prog y #[Z.i x] w' (J (k + 1)) X) (h0 : J 0 w) :
    oX 161 #[y, Z.p b2, Z.p b1] w fun e w' => (∃ v, e = .returned v) ∧ (J (Gs.iP n f).length w' ∨ X w') := by
 refine QR.calls ?_
 unfold QR
 obtain ⟨ah, ay, ag, ae⟩ := hcap _ _ h0
 refine dV (S := no) (fun w1 U1 => ?_)
 replace h0 := hst _ _ _ h0 U1
 refine Z.g 0 ?_
 replace ay := U1.af ay
 refine Z.m ay ?_
 refine lW (fun w' hw' => (lss _ _ _ _)) (fun h2 => ?_) (fun h2 => ?_)
 refine jv (jv (jv (jv (jv (mr ?_)))))
 refine aJ (fun w3 U3 => ?_)
 replace h0 := hst _ _ _ h0 U3
 refine aK ?_
 exact ⟨⟨_, rfl⟩, .inl (by rw [Gs.yT (by omega)]; exact h0)⟩
 refine eX ?_
 refine Z.g 0 ?_
 refine eX ?_
 refine Z.m ay ?_
 refine eX ?_
 replace ah := U1.af ah
 refine Z.m ah ?_
 refine eX ?_
 replace ae := ae.ai U1
 replace ag := U1.af ag
 refine gQ (fun w' hw' => by have ag := hw'.af ag; have ae := ae.ai hw'; exact fH ag ae hn) ?_
 refine eX ?_
 refine lW (fun w' hw' => (geq _ _ _ _)) (fun h6 => ?_) (fun h6 => ?_)
 refine jL ?_
 refine aJ (fun w7 U7 => ?_)
 replace h0 := hst _ _ _ h0 U7
 refine aK ?_
 exact ⟨⟨_, rfl⟩, .inl (by rw [Gs.yT (by omega)]; exact h0)⟩
 refine jL ?_
 refine aJ (fun w9 U9 => ?_)
 replace h0 := hst _ _ _ h0 U9
 refine aH ?_
 refine dV (S := no) (fun w10 aX => ?_)
 replace h0 := hst _ _ _ h0 aX
 refine Z.g 1 ?_
 replace ay := aX.af (U9.af ay)
 refine Z.m ay ?_
 refine bI (fun w' hw' => (alz _ _ _ _ _)) ?_
 replace ah := aX.af (U9.af ah)
 refine Z.m ah ?_
 replace ae := (ae.ai U9).ai aX
 replace ag := aX.af (U9.af ag)
 refine gQ (fun w' hw' => by have ag := hw'.af ag; have ae := ae.ai hw'; exact fH ag ae hn) ?_
 refine bI (fun w' hw' => (alA _ _ _ _ _)) ?_
 refine aJ (fun w12 bW => ?_)
 replace h0 := hst _ _ _ h0 bW
 refine eG (fun g w' => ∃ k : Nat, k ≤ (Gs.iP n f).length ∧ g 21 = Z.i (k : Int) ∧ J k w') (fun g w' => (Gs.iP n f).length - (RowKit.intOf (g 21)).toNat) ?_ (fun g1 wl1 hI => ?_)
 have hpl := Gs.uP (N := n) (f := f) (by omega)
 exact ⟨0, Nat.zero_le _, rfl, h0⟩
 have hpl := Gs.uP (N := n) (f := f) (by omega)
 obtain ⟨k, hk, g21, hJ⟩ := hI
 rw [g21]
 replace ae := ae.ai bW
 replace ah := bW.af ah
 replace ay := bW.af ay
 replace ag := bW.af ag
 obtain ⟨ah, ay, ag, ae⟩ := hcap _ _ hJ
 refine az (lss _ _ _ _) (fun h13 => ?_) (fun h13 => ?_)
 refine aK ?_
 refine ai0 (C := (fun w' => Z.h w' b1 #[Z.p bp] 33 ∧ Z.h w' b2 ((Gs.fv f).toArray) 173 ∧ Z.h w' bp #[Z.i r, Z.i c, .slice A n cp, Z.i cur] 91 ∧ Own B0 w' 37 5 (.slice A n cp) (rows Gs.cv cs))) (fun a b hC U => ⟨U.af hC.1, U.af hC.2.1, U.af hC.2.2.1, hC.2.2.2.ai U⟩) (fun rF bZ => ?_)
 replace hJ := hst _ _ _ hJ bZ
 replace ae := ae.ai bZ
 replace ah := bZ.af ah
 replace ay := bZ.af ay
 replace ag := bZ.af ag
 refine bI (fun w' hw' => by have hC' := hw' ⟨ah, ay, ag, ae⟩; have ah := hC'.1; exact (kH (by kernel_rfl) ah (by rfl))) ?_
 refine gQ (fun w' hw' => by have hC' := hw' ⟨ah, ay, ag, ae⟩; have ag := hC'.2.2.1; have ae := hC'.2.2.2; exact kP ag ae hn) ?_
 refine Z.g 0 ?_
 refine bI (fun w' hw' => by have hC' := hw' ⟨ah, ay, ag, ae⟩; have ay := hC'.2.1; exact (kH (by kernel_rfl) ay (by rfl))) ?_
 refine bI (fun w' hw' => (dJ _ (by omega))) ?_
 refine gQ (fun w' hw' => nI (i := f.s) (j := (k : Int) + 1)) ?_
 rw [hN, Gs.uf (by omega), show ((k : Int) + 1) = ((k + 1 : Nat) : Int) by omega]
 refine aJ (fun vW di => ?_)
 replace hJ := hst _ _ _ hJ di
 refine Ig (hy k _ _ (Gs.yU (by omega)) hJ) (fun wy18 hJ2 => ?_) (fun wy18 hX => ?_)
 replace ae := ae.ai di
 replace ah := di.af ah
 replace ay := di.af ay
 replace ag := di.af ag
 obtain ⟨ah, ay, ag, ae⟩ := hcap _ _ hJ2
 refine bI (fun w' hw' => (jE)) ?_
 refine aJ (fun Ag eU => ?_)
 replace hJ2 := hst _ _ _ hJ2 eU
 refine aH ?_
 refine ak (dJ _ (by omega)) ?_
 exact ⟨⟨k + 1, by omega, rfl, hJ2⟩, cnt_lt (by rfl) rfl (by omega)⟩
 refine bI (fun w' hw' => (mY)) ?_
 refine aJ (fun xM dF => ?_)
 replace hX := hsx _ _ hX dF
 refine aK ?_
 exact ⟨⟨_, rfl⟩, .inr hX⟩
 refine aH ?_
 exact ⟨⟨_, rfl⟩, .inl (by rw [show (Gs.iP n f).length = k by omega]; exact hJ)⟩
theorem JZ {r c cur : Int} {A : Option Addr} {n cp bp B0 : Nat} {cs : List Gs.Cell} {w : World} (ag : Z.h w bp #[Z.i r, Z.i c, .slice A n cp, Z.i cur] 91) (ae : Own B0 w 37 5 (.slice A n cp) (rows Gs.cv cs)) (hn : n = cs.length) (hN : Gs.aY r c = n) (hb : n ≤ 4096) (hcw : Gs.je cs)  :
    oX 133 #[Z.p bp] w fun e w' => e = .returned (Z.i (Gs.um cs)) ∧ aB no w w' := by
 refine aa1.calls ?_
 unfold aa1
 subst hn
 have hF : aB no w w := Fr.refl _ _ _
 refine Z.x _ (fun b1 w1 e1 ah _ U1 => ?_)
 refine Z.n (#[Z.i 0]) (fun b2 w2 e2 ay _ U2 => ?_)
 replace hF := hF.go0 U1
 have fD : w.heap.size ≤ b2 := by have := hF.size; omega
 refine bQ (fun g w' => ∃ (D2 : Nat), (g 1000000 = mkV D2 undef) ∧ (w.heap.size ≤ D2) ∧ (w'.heap[D2]? = some (.deferred (some []))) ∧ (Gs.Io cs (Gs.dm cs).length) ∧ (Z.h w' b2 #[Z.i 0] 3) ∧ (aB no w w')) (fun J1 hJ1 => ?_) (fun gJ1 jY hI => ?_)
 replace ah := U2.af ah
 refine Z.l ah ?_
 replace ae := (ae.ai U1).ai U2
 replace ag := U2.af (U1.af ag)
 refine aI (Bf ag ae rfl) (fun v3 w3 D3 => ?_)
 obtain ⟨b1_5, rfl, g1_5, qp, U3⟩ := D3
 refine wL (by kernel_rfl) (fun w4 l2 D2 Rdy2 Bsy2 Dn2 y2 eD el bz bC lp1 lp2 lp3 sz4 U4 hY => ?_)
 have lp2_2 := lp2
 replace ag := U3.af ag
 have iL : bp ≠ l2 := by have := aj ag; omega
 replace ae := ae.ai U3
 have fB : ∀ k, aG _ k → k ≠ l2 := fun k hk => by have := (Own.ge ae hk).2; omega
 replace ah := U3.af ah
 have iR : b1 ≠ l2 := by have := aj ah; omega
 replace ay := U3.af ay
 have uQ : b2 ≠ D2 := by have := aj ay; omega
 have gU : b2 ≠ l2 := by have := aj ay; omega
 have CW : b1_5 ≠ l2 := by have := aj qp; omega
 replace hF := (hF.go0 U2).go0 U3
 have oK : w.heap.size ≤ D2 := by have := hF.size; omega
 have jR : w.heap.size ≤ l2 := by have := hF.size; omega
 have fK : D2 ≠ l2 := by omega
 replace ae := ae.ai U4
 replace ag := U4.af ag
 replace ah := U4.af ah
 replace ay := U4.af ay
 replace qp := U4.af qp
 replace hF := hF.go0 U4
 refine Calls.mono (yz (b1 := b1_5) (csF := (fun _ => cs)) (J := (fun (k : Nat) (w' : World) => (Gs.Io cs k) ∧ (Z.h w' bp #[Z.i r, Z.i c, .slice A cs.length cp, Z.i cur] 91) ∧ (Own B0 w' 37 5 (.slice A cs.length cp) (rows Gs.cv cs)) ∧ (Z.h w' b1_5 #[Z.p bp] 33) ∧ (Z.h w' b1 #[Z.p bp] 33) ∧ (Z.h w' b2 #[Z.i 0] 3) ∧ (w'.heap[D2]? = some (.deferred (some []))) ∧ (w'.heap[l2]? = some Rdy2) ∧ (aB no w w'))) (X := (fun (w' : World) => (w'.heap[l2]? = some (Dn2 0)) ∧ (Z.h w' b2 #[Z.i (Gs.um cs)] 3) ∧ (w'.heap[D2]? = some (.deferred (some []))) ∧ (aB no w w'))) (fun _ w' hJ => by obtain ⟨hno, ag, ae, qp, ah, ay, bz, bC, hF⟩ := hJ; exact ⟨qp, ag, ae⟩) (fun _ w' w'' hJ U' => by obtain ⟨hno, ag, ae, qp, ah, ay, bz, bC, hF⟩ := hJ; exact ⟨hno, U'.af ag, ae.ai U', U'.af qp, U'.af ah, U'.af ay, U'.af bz, U'.af bC, hF.go0 U'⟩) (fun w' w'' hX U' => by obtain ⟨h_x, ay, bz, hF⟩ := hX; exact ⟨U'.af h_x, U'.af ay, U'.af bz, hF.go0 U'⟩) (fun _ => rfl) (fun _ => hcw) (fun _ _ => rfl) hN hb ?_ ?_) ?_
 intro k qW xk hx hI
 obtain ⟨hno, ag, ae, qp, ah, ay, bz, bC, hF⟩ := hI
 have hk := (List.getElem?_eq_some_iff.1 hx).1
 have hsl := Gs.vz cs
 refine hY [.agg (Gs.fv (Gs.lG cs xk)).toArray] _ _ rfl bC ?_
 simp only [List.getD_cons_zero, List.getD_cons_succ]
 refine Z.n ((Gs.fv Gs.zf).toArray) (fun b5 w5 e5 cO _ U5 => ?_)
 have jT : bp ≠ b5 := by have := aj ag; omega
 have jl := ae.apart e5
 have PP : b1_5 ≠ b5 := by have := aj qp; omega
 have ik : b1 ≠ b5 := by have := aj ah; omega
 have nU : b2 ≠ b5 := by have := aj ay; omega
 have DX : D2 ≠ b5 := by have := aj bz; omega
 have DY : l2 ≠ b5 := by have := aj bC; omega
 have iM : w.heap.size ≤ b5 := by have := hF.size; omega
 refine Z.t 3 ((Gs.fv (Gs.lG cs xk)).toArray) (by (simp [Value.cells, Value.oneCell', Gs.cv, Gs.fv]; done)) cO (fun w6 cO _ U6 => ?_)
 replace bC := U6.au (U5.af bC) DY
 refine zu bC (fun w7 bC _ U7 => ?_)
 refine Z.f 1 ?_
 replace cO := U7.au cO (Ne.symm DY)
 refine Z.l cO ?_
 refine az (gtr _ _ _ _) (fun h8 => ?_) (fun h8 => ?_)
 refine aV ?_
 refine Z.f 2 ?_
 refine aV ?_
 refine Z.l cO ?_
 refine aV ?_
 refine eF (pV (Gs.abf hcw xk)) (fun w9 U9 h9 => ?_) (fun w9 U9 h9 => ?_)
 simp only [Z.d, Z.c] at h9
 refine aV ?_
 refine ak (jE) ?_
 refine aU (aH ?_)
 replace bC := U9.af bC
 refine uO bC (fun w10 bC _ aX => ?_)
 replace ae := ((((ae.ai U5).aF U6 jl).aF U7 fB).ai U9).aF aX fB
 replace ag := aX.au (U9.af (U7.au (U6.au (U5.af ag) jT) iL)) iL
 replace qp := aX.au (U9.af (U7.au (U6.au (U5.af qp) PP) CW)) CW
 replace ah := aX.au (U9.af (U7.au (U6.au (U5.af ah) ik) iR)) iR
 replace ay := aX.au (U9.af (U7.au (U6.au (U5.af ay) nU) gU)) gU
 replace bz := aX.au (U9.af (U7.au (U6.au (U5.af bz) DX) fK)) fK
 replace hF := ((((hF.go0 U5).go1 U6 iM).go1 U7 jR).go0 U9).go1 aX jR
 exact ⟨(Gs.PQ hno hx (Gs.ajp (by assumption))), ag, ae, qp, ah, ay, bz, bC, hF⟩
 simp only [Z.d, Z.c] at h9
 refine aV ?_
 refine ak (mY) ?_
 refine aU (aK ?_)
 refine dV (S := no) (fun nT bD => ?_)
 replace ah := bD.af (U9.af (U7.au (U6.au (U5.af ah) ik) iR))
 refine Z.m ah ?_
 replace ae := ((((ae.ai U5).aF U6 jl).aF U7 fB).ai U9).ai bD
 replace ag := bD.af (U9.af (U7.au (U6.au (U5.af ag) jT) iL))
 refine gQ (fun w' hw' => by have ag := hw'.af ag; have ae := ae.ai hw'; exact kP ag ae rfl) ?_
 refine Z.g 0 ?_
 replace cO := bD.af (U9.af cO)
 refine Z.m cO ?_
 refine gQ (fun w' hw' => nI (i := (xk : Int)) (j := 1)) ?_
 rw [hN, Gs.uf (by omega), Gs.ajq hno hx (Gs.ajr (by assumption) (by assumption))]
 refine aJ (fun rF bZ => ?_)
 replace ay := bZ.af (bD.af (U9.af (U7.au (U6.au (U5.af ay) nU) gU)))
 refine Z.s ay (fun ut ay _ bT => ?_)
 refine aJ (fun w16 bU => ?_)
 replace bC := bU.af (bT.au (bZ.af (bD.af (U9.af bC))) (Ne.symm gU))
 refine aqO bC (fun vW bC _ di => ?_)
 replace bz := di.au (bU.af (bT.au (bZ.af (bD.af (U9.af (U7.au (U6.au (U5.af bz) DX) fK)))) (Ne.symm uQ))) fK
 replace hF := ((((((((hF.go0 U5).go1 U6 iM).go1 U7 jR).go0 U9).go0 bD).go0 bZ).go1 bT fD).go0 bU).go1 di jR
 replace ay := di.au (bU.af ay) gU
 exact ⟨bC, ay, bz, hF⟩
 refine aP (aP (aP (aP (aQ (aH ?_)))))
 refine uO bC (fun xY bC _ dR => ?_)
 replace ae := (((ae.ai U5).aF U6 jl).aF U7 fB).aF dR fB
 replace ag := dR.au (U7.au (U6.au (U5.af ag) jT) iL) iL
 replace qp := dR.au (U7.au (U6.au (U5.af qp) PP) CW) CW
 replace ah := dR.au (U7.au (U6.au (U5.af ah) ik) iR) iR
 replace ay := dR.au (U7.au (U6.au (U5.af ay) nU) gU) gU
 replace bz := dR.au (U7.au (U6.au (U5.af bz) DX) fK) fK
 replace hF := (((hF.go0 U5).go1 U6 iM).go1 U7 jR).go1 dR jR
 exact ⟨(Gs.PQ hno hx (Gs.ajs (by assumption))), ag, ae, qp, ah, ay, bz, bC, hF⟩
 exact ⟨(Gs.ajt _), ag, ae, qp, ah, ay, bz, bC, hF⟩
 rintro e wE2 ⟨hv, hI | hI⟩
 obtain ⟨hno, ag, ae, qp, ah, ay, bz, bC, hF⟩ := hI
 refine ⟨hv, .inl ⟨bC, fun Ag _ eU => ?_⟩⟩
 refine hJ1 _ _ ?_
 replace ay := eU.au ay gU
 replace bz := eU.au bz fK
 replace hF := hF.go1 eU jR
 exact ⟨_, (by rfl), oK, bz, hno, ay, hF⟩
 obtain ⟨h_x, ay, bz, hF⟩ := hI
 refine ⟨hv, .inr ⟨0, _, List.mem_singleton.2 rfl, h_x, fun xM _ dF => ?_⟩⟩
 replace bz := dF.au bz fK
 refine leave1 bz (fun Gq _ eQ => ?_)
 replace ay := eQ.au (dF.au ay gU) uQ
 refine Ap (kH (by kernel_rfl) ay (by rfl)) ?_
 replace hF := (hF.go1 dF jR).go1 eQ oK
 exact ⟨rfl, hF⟩
 replace hF := hF.go0 U2
 obtain ⟨D2, g1000000, oK, bz, hno, ay, hF⟩ := hI
 rw [g1000000]
 refine Z.s ay (fun Jl ay _ jD => ?_)
 replace bz := jD.au bz (by exact ZQ (by assumption) (by assumption))
 refine leave1 bz (fun JC _ iq => ?_)
 replace ay := iq.au ay (by exact MP (by assumption) (by assumption))
 refine Ap (kH (by kernel_rfl) ay (by rfl)) ?_
 replace hF := (hF.go1 jD fD).go1 iq oK
 rw [Gs.adt hno]; exact ⟨rfl, hF⟩
end Go.Proofs.YtjdoakbadehicaaGreatDoor
end
section
namespace Gs
open Go
structure Inb where
 jf : Int
 alone : Bool
 cur : Int
 items : List (Int × List Cell)
deriving DecidableEq
def dX (b : Int) : Bool := decide (64 ≤ b) || decide (b = 0 ∨ b = 12 ∨ b = 13 ∨ b = 21 ∨ b = 25 ∨ b = 28 ∨ b = 30 ∨ b = 63)
def vP (a b : Int) : Int := if a < 64 then 256 * a + b else 64 * (a % 64) + b % 64
def uU : List Int → Except Int (Cell × List Int)
 | [] => .error 20
 | c :: r => if dX c = true then .ok (⟨c, false, false, 0, 0⟩, r) else if c ≠ 8 then .error 21 else
  match r with
  | [] => .error 20
  | d :: r' => if d < 64 then .error 21 else .ok (⟨d, true, false, 0, 0⟩, r')
theorem BJ {l : List Int} {x : Cell} {r : List Int} (h : uU l = .ok (x, r)) : r.length < l.length := by
 unfold uU at h
 split at h
 ·cases h
 ·split at h
  ·cases h; simp
  ·split at h
   ·cases h
   ·split at h
    ·cases h
    ·split at h
     ·cases h
     ·cases h; simp; omega
def iV (l : List Int) : Except Int (List Cell × List Int) :=
 if l.head? = none ∨ l.head? = some 17 then .ok ([], l) else
 match h : uU l with
 | .error e => .error e
 | .ok (x, r) => match iV r with | .error e => .error e | .ok (xs, r') => .ok (x :: xs, r')
termination_by l.length
decreasing_by exact BJ h
theorem CY : ∀ {l : List Int} {xs : List Cell} {r : List Int}, iV l = .ok (xs, r) → r.length ≤ l.length ∧ (r.head? = none ∨ r.head? = some 17) ∧ (xs = [] → r = l) ∧ (xs ≠ [] → r.length < l.length)
 | l, xs, r, h => by
  unfold iV at h
  split at h
  ·rename_i hh; cases h; exact ⟨Nat.le_refl _, hh, fun _ => rfl, fun h => absurd rfl h⟩
  ·split at h
   ·cases h
   ·rename_i x r1 h1
    split at h
    ·cases h
    ·rename_i xs2 r2 h2
     cases h
     have hl := BJ h1
     have := CY h2
     exact ⟨by omega, this.2.1, (fun h => by cases h), fun _ => by omega⟩
termination_by l => l.length
decreasing_by assumption
def kY : List Int → Except Int (Int × List Int)
 | a :: b :: r => .ok (vP a b, r)
 | _ => .error 20
def sU (l : List Int) : Except Int ((Int × List Cell) × List Int) :=
 if l.head? = some 17 then
  match kY l.tail with
  | .error e => .error e
  | .ok (p, r) => match iV r with | .error e => .error e | .ok (xs, r') => .ok ((p, xs), r')
 else match iV l with | .error e => .error e | .ok (xs, r') => .ok ((-1, xs), r')
theorem zG {l : List Int} {p : Int} {r : List Int} (h : kY l = .ok (p, r)) : r.length + 2 = l.length := by
 unfold kY at h
 split at h
 ·cases h; rfl
 ·cases h
theorem SK {l : List Int} {x : Int × List Cell} {r : List Int} (hl : l ≠ []) (h : sU l = .ok (x, r)) : r.length < l.length := by
 unfold sU at h
 split at h
 ·split at h
  ·cases h
  ·rename_i h1
   split at h
   ·cases h
   ·rename_i h2
    cases h
    have a := zG h1
    have b := (CY h2).1
    have : l.tail.length < l.length := by cases l; exact absurd rfl hl; simp
    omega
 ·rename_i hh
  split at h
  ·cases h
  ·rename_i xs r1 h2
   cases h
   have b := CY h2
   refine b.2.2.2 (fun hx => ?_)
   have hr := b.2.2.1 hx
   rw [hr] at b
   rcases b.2.1 with h3 | h3
   ·exact hl (by cases l; rfl; simp at h3)
   ·exact hh h3
def kw (l : List Int) : Except Int (List (Int × List Cell)) :=
 if hl : l = [] then .ok [] else
 match h : sU l with
 | .error e => .error e
 | .ok (x, r) => match kw r with | .error e => .error e | .ok xs => .ok (x :: xs)
termination_by l.length
decreasing_by exact SK hl h
def xP : List Int → Except Int Inb
 | [] => .error 20
 | a :: r => if r = [] then .ok ⟨a, true, 0, []⟩ else
  match kY r with
  | .error e => .error e
  | .ok (c, r') => match kw r' with | .error e => .error e | .ok xs => .ok ⟨a, false, c, xs⟩
def alc : Inb := ⟨0, false, 0, []⟩
def QN (l : List Int) : Inb := match xP l with | .ok x => x | .error _ => alc
def afo {α : Type} (r : Except Int α) : Int := match r with | .ok _ => 0 | .error e => e
def jV (v : Int) : Int := let v := v % 64; if (1 ≤ v % 16 ∧ v % 16 ≤ 9 ∧ v ≠ 33) ∨ v = 48 then 192 + v else 64 + v
def xG (p n : Int) : Option (Int × Int) :=
 if n < 1 ∨ 16384 < n ∨ p < 0 ∨ n ≤ p then none else if 4096 < n then some (p / 256, p % 256) else some (jV (p / 64), jV p)
def ab7 (c : Cell) : Bool := !c.st && decide (c.l = 0) && decide (c.c = 0) && (if c.ge then decide (64 ≤ c.b) else dX c.b)
def cellW (c : Cell) : List Int := if c.ge then [8, c.b] else [c.b]
def KD : List Cell → Except Int (List Int)
 | [] => .ok []
 | c :: cs => if ab7 c = true then (match KD cs with | .error e => .error e | .ok l => .ok (cellW c ++ l)) else .error 21
def ail (x : Int × List Cell) (first : Bool) (n : Int) : Except Int (List Int) :=
 if x.1 ≠ -1 ∨ first = false then
  match xG x.1 n with
  | none => .error 32
  | some (a, b) => match KD x.2 with | .error e => .error e | .ok l => .ok (17 :: a :: b :: l)
 else KD x.2
def Wx (n : Int) : Bool → List (Int × List Cell) → Except Int (List Int)
 | _, [] => .ok []
 | f, x :: xs => match ail x f n with
  | .error e => .error e
  | .ok l => match Wx n false xs with | .error e => .error e | .ok k => .ok (l ++ k)
end Gs
end
section
namespace Gs
open Go
theorem Q7 (d : Int) (r : List Int) : uU (8 :: d :: r) = if d < 64 then .error 21 else .ok (⟨d, true, false, 0, 0⟩, r) := rfl
theorem Y0 {c : Int} (h : dX c = true) (r : List Int) : uU (c :: r) = .ok (⟨c, false, false, 0, 0⟩, r) := if_pos h
theorem af6 (a b : Int) (r : List Int) : sU (17 :: a :: b :: r) = match iV r with | .error e => .error e | .ok (xs, r') => .ok ((vP a b, xs), r') := rfl
theorem al5 (a b c : Int) (r : List Int) : xP (a :: b :: c :: r) = match kw r with | .error e => .error e | .ok xs => .ok ⟨a, false, vP b c, xs⟩ := rfl
theorem Oi (v : Int) : 64 ≤ jV v ∧ jV v ≤ 255 ∧ jV v % 64 = v % 64 := by
 unfold jV
 dsimp only
 split <;> omega
theorem Y7 {p n a b : Int} (h : xG p n = some (a, b)) : vP a b = p ∧ 0 ≤ a ∧ a ≤ 255 ∧ 0 ≤ b ∧ b ≤ 255 ∧ 0 ≤ p := by
 unfold xG at h
 split at h
 ·cases h
 ·split at h
  ·cases h
   unfold vP
   rw [if_pos (by omega)]
   omega
  ·cases h
   have h1 := Oi (p / 64)
   have h2 := Oi p
   unfold vP
   rw [if_neg (by omega)]
   omega
theorem af7 {c : Cell} (h : ab7 c = true) : c = ⟨c.b, c.ge, false, 0, 0⟩ ∧ (c.ge = true → 64 ≤ c.b) ∧ (c.ge = false → dX c.b = true) := by
 obtain ⟨b, ge, st, l, co⟩ := c
 cases ge <;> cases st <;> simp_all [ab7]
theorem ajE {c : Cell} (h : ab7 c = true) (r : List Int) : uU (cellW c ++ r) = .ok (c, r) ∧ (cellW c ++ r).head? ≠ none ∧ (cellW c ++ r).head? ≠ some 17 := by
 obtain ⟨h1, h2, h3⟩ := af7 h
 cases hg : c.ge with
 | false =>
  have hp := h3 hg
  have hw : cellW c = [c.b] := by unfold cellW; rw [hg]; rfl
  rw [hw]
  refine ⟨?_, by simp, ?_⟩
  ·rw [hg] at h1
   rw [List.cons_append, Y0 hp, ← h1]
   rfl
  ·show some c.b ≠ some 17
   intro e
   rw [Option.some.inj e] at hp
   exact absurd hp (by decide)
 | true =>
  have hw : cellW c = [8, c.b] := by unfold cellW; rw [hg]; rfl
  rw [hw]
  refine ⟨?_, by simp, by simp⟩
  rw [hg] at h1
  rw [List.cons_append, List.cons_append, Q7, if_neg (by have := h2 hg; omega), ← h1]
  rfl
theorem Wv : ∀ {xs : List Cell} {l : List Int}, KD xs = .ok l → ∀ r : List Int, (r.head? = none ∨ r.head? = some 17) → iV (l ++ r) = .ok (xs, r)
 | [], l, h, r, hr => by
  cases h
  unfold iV
  rw [List.nil_append, if_pos hr]
 | c :: cs, l, h, r, hr => by
  unfold KD at h
  split at h
  ·rename_i hm
   split at h
   ·cases h
   ·rename_i k hk
    cases h
    have h1 := ajE hm (k ++ r)
    have h2 := Wv hk r hr
    rw [List.append_assoc]
    unfold iV
    rw [if_neg (by rintro (e | e); exact h1.2.1 e; exact h1.2.2 e)]
    split
    ·rename_i e he; rw [h1.1] at he; cases he
    ·rename_i x r1 he
     rw [h1.1] at he
     cases he
     rw [h2]
  ·cases h
theorem Ws {n : Int} : ∀ {xs : List (Int × List Cell)} {l : List Int}, Wx n false xs = .ok l → kw l = .ok xs ∧ (l.head? = none ∨ l.head? = some 17)
 | [], l, h => by cases h; exact ⟨by unfold kw; rw [dif_pos rfl], .inl rfl⟩
 | x :: xs, l, h => by
  unfold Wx at h
  split at h
  ·cases h
  ·rename_i m hm
   split at h
   ·cases h
   ·rename_i k hk
    cases h
    have ih := Ws hk
    unfold ail at hm
    rw [if_pos (.inr rfl)] at hm
    split at hm
    ·cases hm
    ·rename_i a b he
     split at hm
     ·cases hm
     ·rename_i cs hcs
      cases hm
      have hd := Y7 he
      refine ⟨?_, .inr rfl⟩
      have hi : sU (17 :: a :: b :: cs ++ k) = .ok (x, k) := by
       rw [show 17 :: a :: b :: cs ++ k = 17 :: a :: b :: (cs ++ k) from rfl, af6, Wv hcs k ih.2, hd.1]
      unfold kw
      rw [dif_neg (by simp)]
      split
      ·rename_i e he2; rw [hi] at he2; cases he2
      ·rename_i y r1 he2
       rw [hi] at he2
       cases he2
       rw [ih.1]
def byL (l : List Int) : Prop := ∀ x ∈ l, 0 ≤ x ∧ x ≤ 255
theorem byL.tail {a : Int} {l : List Int} (h : byL (a :: l)) : byL l := fun x hx => h x (List.mem_cons_of_mem _ hx)
end Gs
namespace Gs
open Go
def GL (c : Cell) : Cell := if c.st then ⟨c.b % 64, false, true, 0, 0⟩ else ⟨if c.ge then (if c.b < 64 then 64 else c.b) else (if dX c.b = true then c.b else 64), c.ge, false, 0, 0⟩
def qN (c : Cell) : Bool := decide (c.b = 0) && !c.ge
def nK (c : Cell) : List Int := if c.ge then (if c.b < 64 then [8, 64] else [8, c.b]) else (if dX c.b = true then [c.b] else [64])
def mZ (cs : List Cell) (l : List Int) : List Int := ((l.map (bH cs)).filter fun c => !qN c).flatMap nK
def KE (cs : List Cell) (l : List Int) : List Cell := ((l.map (bH cs)).filter fun c => !qN c).map GL
end Gs
end
section
namespace Gs
open Go
theorem adn (v : Int) : jV (v % 64) = jV v := by
 unfold jV
 rw [Int.emod_emod_of_dvd v (by decide : (64 : Int) ∣ 64)]
def mV (p n : Int) : Int × Int × Int := match xG p n with | none => (0, 0, 1) | some (a, b) => (a, b, 0)
theorem Iq {p n : Int} (h : n < 1 ∨ 16384 < n ∨ p < 0 ∨ n ≤ p) : mV p n = (0, 0, 1) := by unfold mV xG; rw [if_pos h]
theorem afL {p n : Int} (h : ¬ (n < 1 ∨ 16384 < n ∨ p < 0 ∨ n ≤ p)) (h2 : 4096 < n) : mV p n = (p / 256, p % 256, 0) := by unfold mV xG; rw [if_neg h, if_pos h2]
theorem abU {p n : Int} (h : ¬ (n < 1 ∨ 16384 < n ∨ p < 0 ∨ n ≤ p)) (h2 : ¬ 4096 < n) : mV p n = (jV (p / 64), jV p, 0) := by unfold mV xG; rw [if_neg h, if_neg h2]
theorem ajD (p n : Int) : 0 ≤ (mV p n).1 ∧ (mV p n).1 ≤ 255 ∧ 0 ≤ (mV p n).2.1 ∧ (mV p n).2.1 ≤ 255 := by
 unfold mV
 split
 ·decide
 ·rename_i a b h
  have := Y7 h
  dsimp only
  omega
theorem afM {b : Int} (h : ¬ (b = 0 ∨ b = 12 ∨ b = 13 ∨ b = 21 ∨ b = 25 ∨ b = 28 ∨ b = 30 ∨ b = 63)) : dX b = decide (64 ≤ b) := by
 unfold dX; rw [decide_eq_false h, Bool.or_false]
theorem abV {b : Int} (h : b = 0 ∨ b = 12 ∨ b = 13 ∨ b = 21 ∨ b = 25 ∨ b = 28 ∨ b = 30 ∨ b = 63) : dX b = true := by
 unfold dX; rw [decide_eq_true h, Bool.or_true]
def lH (b : Int) : Int := if 241 ≤ b ∧ b ≤ 249 then b - 240 else if 122 ≤ b ∧ b ≤ 124 then b - 112 else if 193 ≤ b ∧ b ≤ 201 then b - 180 else if 74 ≤ b ∧ b ≤ 76 then b - 52 else 0
def AP (b : Int) : ByteArray := if b = 125 then ⟨#[69, 78, 84, 69, 82]⟩ else if b = 109 then ⟨#[67, 76, 69, 65, 82]⟩ else if b = 108 then ⟨#[80, 65, 49]⟩ else if b = 110 then ⟨#[80, 65, 50]⟩ else if b = 107 then ⟨#[80, 65, 51]⟩ else ⟨#[]⟩
def zC (n : Int) : ByteArray := ⟨(Lib.itoa n).toArray⟩
def AQ (b : Int) : ByteArray := if 0 < lH b then ⟨#[80, 70]⟩ ++ zC (lH b) else AP b
theorem YY (b : Int) : 0 ≤ lH b ∧ lH b ≤ 24 := by unfold lH; split <;> (try split) <;> (try split) <;> (try split) <;> omega
theorem SH (n : Nat) : zC n = ⟨(Lib.decDigits n).toArray⟩ := by unfold zC; rw [Lib.itoa_nonneg]
def Q5 : ByteArray := ⟨#[48, 49, 50, 51, 52, 53, 54, 55, 56, 57, 65, 66, 67, 68, 69, 70]⟩
def hexS (b : Int) : ByteArray := Q5.extract (b / 16).toNat (b / 16 + 1).toNat ++ Q5.extract (b % 16).toNat (b % 16 + 1).toNat
def EQ (b : Int) : ByteArray := if AQ b = ⟨#[]⟩ then hexS b else AQ b
theorem SI {b : Int} (h : 0 ≤ b) : (Q5.extract (b / 16).toNat (b / 16 + 1).toNat).size + (Q5.extract (b % 16).toNat (b % 16 + 1).toNat).size ≤ 2 := by
 rw [ByteArray.size_extract, ByteArray.size_extract]; omega
theorem P7 {b : Int} (h : 0 ≤ b ∧ b ≤ 255) : (EQ b).size ≤ 100 := by
 unfold EQ
 split
 ·unfold hexS; rw [ByteArray.size_append]; have := SI h.1; omega
 ·unfold AQ
  split
  ·rw [ByteArray.size_append]
   have hb := YY b
   obtain ⟨n, hn⟩ := Int.eq_ofNat_of_zero_le hb.1
   rw [hn, SH]
   have : ∀ i : Fin 25, (Lib.decDigits i.val).length ≤ 2 := by decide +kernel
   have h2 := this ⟨n, by omega⟩
   have h3 : (⟨#[80, 70]⟩ : ByteArray).size = 2 := rfl
   have h4 : (⟨(Lib.decDigits n).toArray⟩ : ByteArray).size = (Lib.decDigits n).length := Sh.Oh _
   dsimp only at h2
   omega
  ·unfold AP
   split
   ·decide
   ·split
    ·decide
    ·split
     ·decide
     ·split
      ·decide
      ·split <;> decide
end Gs
namespace Gs
open Go
theorem V7 {page : Int} {c : Cell} (h : c.st = true ∨ (c.ge = false ∧ ¬ (64 ≤ c.b ∧ c.b ≤ 254))) : (⟨#[32]⟩ : ByteArray) = Utf8.encode (vZ page c) := by
 have : vZ page c = 32 := by
  rcases h with h | ⟨h, h2⟩
  ·exact Wu h
  ·by_cases hs : c.st = true
   ·exact Wu hs
   ·unfold vZ; rw [if_neg hs, if_neg (by rw [h]; decide), if_neg h2]
 rw [this]; rfl
theorem Ye {n : Int} (h : 0 ≤ n ∧ n < 100) : (zC n).size ≤ 21 := by
 unfold zC
 rw [Sh.Oh]
 exact Lib.itoa_length_le n (by omega) (by omega)
theorem Iy {n : Int} (h : -9223372036854775808 ≤ n ∧ n ≤ 9223372036854775807) : (zC n).size ≤ 21 := by
 unfold zC
 rw [Sh.Oh]
 exact Lib.itoa_length_le n h.1 h.2
end Gs
namespace Go.Sh
open Go
variable {P : Program} {w : World} {R : Ending → World → Prop} {K : Value → World → Prop}
end Go.Sh
end
section
namespace Go.Sh
open Go
variable {P : Program} {w : World}
theorem aqm (t : TypeId) (x : Int) : (binOp .shr t (.int .i64 x) (.int .u64 6)).run P w = .ok (.int .i64 (x / 64)) w := by
 have h : (binOp .shr t (.int .i64 x) (.int .u64 6)).run P w = (Op.shift .shr .i64 x .u64 6).run P w := rfl
 rw [h, shift_shr _ _ _ _ (by decide) (by decide)]; rfl
theorem aqn (t : TypeId) (x : Int) : (binOp .shr t (.int .i64 x) (.int .u64 8)).run P w = .ok (.int .i64 (x / 256)) w := by
 have h : (binOp .shr t (.int .i64 x) (.int .u64 8)).run P w = (Op.shift .shr .i64 x .u64 8).run P w := rfl
 rw [h, shift_shr _ _ _ _ (by decide) (by decide)]; rfl
theorem ag4 (t : TypeId) (x : Int) : (binOp .shr t (.int .u8 x) (.int .u64 4)).run P w = .ok (.int .u8 (x / 16)) w := by
 have h : (binOp .shr t (.int .u8 x) (.int .u64 4)).run P w = (Op.shift .shr .u8 x .u64 4).run P w := rfl
 rw [h, shift_shr _ _ _ _ (by decide) (by decide)]; rfl
theorem aqo (t : TypeId) {x : Int} (h0 : 0 ≤ x ∧ x ≤ 65535) : (binOp .shl t (.int .i64 x) (.int .u64 6)).run P w = .ok (.int .i64 (x * 64)) w := by
 have h : (binOp .shl t (.int .i64 x) (.int .u64 6)).run P w = (Op.shift .shl .i64 x .u64 6).run P w := rfl
 rw [h, shift_shl _ _ _ _ (by decide) (by decide)]
 show Result.ok (Value.int .i64 (IntKind.i64.wrap (x * 64))) w = _
 rw [wrap_i64 (by omega) (by omega)]
theorem ak2 (t : TypeId) {x : Int} (h0 : 0 ≤ x ∧ x ≤ 65535) : (binOp .shl t (.int .i64 x) (.int .u64 8)).run P w = .ok (.int .i64 (x * 256)) w := by
 have h : (binOp .shl t (.int .i64 x) (.int .u64 8)).run P w = (Op.shift .shl .i64 x .u64 8).run P w := rfl
 rw [h, shift_shl _ _ _ _ (by decide) (by decide)]
 show Result.ok (Value.int .i64 (IntKind.i64.wrap (x * 256))) w = _
 rw [wrap_i64 (by omega) (by omega)]
theorem acZ {x y : Int} (j : Nat) (hx : 0 ≤ x) (hd : x % ((2 ^ j : Nat) : Int) = 0) (hy : 0 ≤ y) (hy2 : y < ((2 ^ j : Nat) : Int)) (hb : x + y ≤ 9223372036854775807) : bits .or .i64 x y = x + y := by
 obtain ⟨a, rfl⟩ := Int.eq_ofNat_of_zero_le hx
 obtain ⟨b, rfl⟩ := Int.eq_ofNat_of_zero_le hy
 have hd' : a % 2 ^ j = 0 := by exact_mod_cast hd
 have hb' : b < 2 ^ j := by exact_mod_cast hy2
 have e64 : ((2 ^ IntKind.i64.bits : Nat) : Int) = 18446744073709551616 := by decide
 have key : (BitVec.ofInt IntKind.i64.bits (a : Int) ||| BitVec.ofInt IntKind.i64.bits (b : Int)).toNat = a + b := by
  rw [BitVec.toNat_or, BitVec.toNat_ofInt, BitVec.toNat_ofInt, e64]
  rw [Int.emod_eq_of_lt (by omega) (by omega), Int.emod_eq_of_lt (by omega) (by omega), Int.toNat_natCast, Int.toNat_natCast]
  have h1 := Nat.shiftLeft_add_eq_or_of_lt hb' (a / 2 ^ j)
  rw [Nat.shiftLeft_eq, Nat.div_mul_cancel (Nat.dvd_of_mod_eq_zero hd')] at h1
  exact h1.symm
 show IntKind.i64.wrap (((BitVec.ofInt IntKind.i64.bits (a : Int) ||| BitVec.ofInt IntKind.i64.bits (b : Int)).toNat : Nat) : Int) = _
 rw [key, wrap_i64 (by omega) (by omega)]
 omega
theorem RY (t : TypeId) {x y : Int} (h : 0 ≤ x ∧ x % 64 = 0 ∧ x ≤ 4294967296) (hy : 0 ≤ y ∧ y < 64) : (binOp .or t (.int .i64 x) (.int .i64 y)).run P w = .ok (.int .i64 (x + y)) w := by
 rw [orB, acZ 6 h.1 h.2.1 hy.1 hy.2 (by omega)]
theorem or8 (t : TypeId) {x y : Int} (h : 0 ≤ x ∧ x % 256 = 0 ∧ x ≤ 4294967296) (hy : 0 ≤ y ∧ y < 256) : (binOp .or t (.int .i64 x) (.int .i64 y)).run P w = .ok (.int .i64 (x + y)) w := by
 rw [orB, acZ 8 h.1 h.2.1 hy.1 hy.2 (by omega)]
theorem ak3 (t : TypeId) (x : Int) : (binOp .and t (.int .i64 x) (.int .i64 63)).run P w = .ok (.int .i64 (x % 64)) w := by
 have := afj x 6 (by decide)
 have h : (binOp .and t (.int .i64 x) (.int .i64 63)).run P w = .ok (.int .i64 (bits .and .i64 x 63)) w := rfl
 rw [h, show (63 : Int) = ((2 ^ 6 - 1 : Nat) : Int) from rfl, this]; rfl
theorem ac0 {x : Int} (hx : 0 ≤ x ∧ x ≤ 255) : bits .and .u8 x 15 = x % 16 := xU (p := fun x => bits .and .u8 x 15 = x % 16) (by decide +kernel) hx
theorem YH (t : TypeId) {x : Int} (hx : 0 ≤ x ∧ x ≤ 255) : (binOp .and t (.int .u8 x) (.int .u8 15)).run P w = .ok (.int .u8 (x % 16)) w := by rw [NK, ac0 hx]
theorem UH {x : Int} (hx : 0 ≤ x ∧ x ≤ 255) : bits .andNot .u8 x 63 = x / 64 * 64 := xU (p := fun x => bits .andNot .u8 x 63 = x / 64 * 64) (by decide +kernel) hx
theorem ZR (t : TypeId) {x : Int} (hx : 0 ≤ x ∧ x ≤ 255) : (binOp .andNot t (.int .u8 x) (.int .u8 63)).run P w = .ok (.int .u8 (x / 64 * 64)) w := by rw [YG, UH hx]
end Go.Sh
namespace Go.Sh
open Go
variable {P : Program} {w : World}
theorem ai1 {s t : TypeId} {k : IntKind} {n : Int} (hs : (Aj P s).isSome = true) (ht : Aj P t = some .u8) : (convert s t (.int k n)).run P w = .ok (.int .u8 (n % 256)) w := by
 rw [O7 hs ht, IntKind.wrap_u8]
end Go.Sh
end
section
namespace Go.Sh
open Go
variable {P : Program} {w : World}
theorem XK {t : TypeId} (h : isStr P t = true) : P.underlying t = some .string := by
 unfold isStr at h
 split at h
 ·assumption
 ·cases h
theorem YZ {t : TypeId} {s : ByteArray} {k k' : IntKind} {l h : Int} (ht : isStr P t = true) (h0 : 0 ≤ l) (h1 : l ≤ h) (h2 : h ≤ s.size) : (Instr.sliceAt t (.string s) (some (.int k l)) (some (.int k' h)) none).run P w = .ok (.string (s.extract l.toNat h.toNat)) w := by
 rw [run_sliceAt_string _ _ _ _ _ _ (XK ht)]; exact run_slice_string w t s k k' l h (XK ht) h0 h1 h2
end Go.Sh
end
section
namespace Go.Proofs
open Go.Shelf
def Tryz.XJ : Go.Shelf.Ren := ⟨fun | 171 => 77 | 243 => 128 | 246 => 156 | 283 => 174 | 284 => 175 | 285 => 176 | 286 => 177 | 129 => 193 | 317 => 192 | 318 => 194 | 319 => 195 | 320 => 196 | 337 => 202 | 338 => 203 | n => n, fun | 3 => 3 | 9 => 9 | 2 => 2 | 4 => 4 | 171 => 231 | 0 => 0 | 53 => 232 | 37 => 24 | 5 => 5 | 173 => 235 | 212 => 245 | 51 => 199 | 20 => 20 | 213 => 246 | 46 => 181 | 232 => 252 | 233 => 253 | n => n, fun | 17 => 1 | 18 => 2 | 19 => 3 | n => n⟩
theorem Tryz.laysM171 : Go.Proofs.LaysM.n171 Tryz.prog Tryz.XJ := {
 mixed := by kernel_rfl
 f129 := Tryz.func193.trans (congrArg some (by kernel_rfl))
 f171 := Tryz.func77.trans (congrArg some (by kernel_rfl))
 f243 := Tryz.func128.trans (congrArg some (by kernel_rfl))
 f246 := Tryz.func156.trans (congrArg some (by kernel_rfl))
 f283 := Tryz.func174.trans (congrArg some (by kernel_rfl))
 f284 := Tryz.func175.trans (congrArg some (by kernel_rfl))
 f285 := Tryz.func176.trans (congrArg some (by kernel_rfl))
 f286 := Tryz.func177.trans (congrArg some (by kernel_rfl))
 f317 := Tryz.func192.trans (congrArg some (by kernel_rfl))
 f318 := Tryz.func194.trans (congrArg some (by kernel_rfl))
 f319 := Tryz.func195.trans (congrArg some (by kernel_rfl))
 f320 := Tryz.func196.trans (congrArg some (by kernel_rfl))
 f337 := Tryz.func202.trans (congrArg some (by kernel_rfl))
 f338 := Tryz.func203.trans (congrArg some (by kernel_rfl))
 t0 := Tryz.underlying0
 a0 := Tryz.isAgg0
 z0 := Tryz.sizeOf0
 v0 := Tryz.zeroValue0
 t2 := Tryz.underlying2
 a2 := Tryz.isAgg2
 z2 := Tryz.sizeOf2
 v2 := Tryz.zeroValue2
 t3 := Tryz.underlying3
 a3 := Tryz.isAgg3
 z3 := Tryz.sizeOf3
 v3 := Tryz.zeroValue3
 t4 := Tryz.underlying4
 a4 := Tryz.isAgg4
 z4 := Tryz.sizeOf4
 v4 := Tryz.zeroValue4
 t5 := Tryz.underlying5
 a5 := Tryz.isAgg5
 z5 := Tryz.sizeOf5
 v5 := Tryz.zeroValue5
 t9 := Tryz.underlying9
 a9 := Tryz.isAgg9
 z9 := Tryz.sizeOf9
 v9 := Tryz.zeroValue9
 t20 := Tryz.underlying20
 a20 := Tryz.isAgg20
 z20 := Tryz.sizeOf20
 v20 := Tryz.zeroValue20
 t37 := Tryz.underlying24
 a37 := Tryz.isAgg24
 z37 := Tryz.sizeOf24
 v37 := Tryz.zeroValue24
 t46 := Tryz.underlying181
 a46 := Tryz.isAgg181
 z46 := Tryz.sizeOf181
 v46 := Tryz.zeroValue181
 t51 := Tryz.underlying199
 a51 := Tryz.isAgg199
 z51 := Tryz.sizeOf199
 v51 := Tryz.zeroValue199
 t53 := Tryz.underlying232
 a53 := Tryz.isAgg232
 z53 := Tryz.sizeOf232
 v53 := Tryz.zeroValue232
 t171 := Tryz.underlying231
 a171 := Tryz.isAgg231
 z171 := Tryz.sizeOf231
 v171 := Tryz.zeroValue231
 t173 := Tryz.underlying235
 a173 := Tryz.isAgg235
 z173 := Tryz.sizeOf235
 v173 := Tryz.zeroValue235
 t212 := Tryz.underlying245
 a212 := Tryz.isAgg245
 z212 := Tryz.sizeOf245
 v212 := Tryz.zeroValue245
 t213 := Tryz.underlying246
 a213 := Tryz.isAgg246
 z213 := Tryz.sizeOf246
 t232 := Tryz.underlying252
 a232 := Tryz.isAgg252
 z232 := Tryz.sizeOf252
 v232 := Tryz.zeroValue252
 t233 := Tryz.underlying253
 a233 := Tryz.isAgg253
 z233 := Tryz.sizeOf253
 v233 := Tryz.zeroValue253
 g17 := by kernel_rfl
 g18 := by kernel_rfl
 g19 := by kernel_rfl
 i0 := by kernel_rfl
 i2 := by kernel_rfl
 i3 := by kernel_rfl
 i4 := by kernel_rfl
 i5 := by kernel_rfl
 i9 := by kernel_rfl
 i20 := by kernel_rfl
 i37 := by kernel_rfl
 i46 := by kernel_rfl
 i51 := by kernel_rfl
 i53 := by kernel_rfl
 i171 := by kernel_rfl
 i173 := by kernel_rfl
 i212 := by kernel_rfl
 i232 := by kernel_rfl
 i233 := by kernel_rfl
 m17 := by kernel_rfl
 m18 := by kernel_rfl
 m19 := by kernel_rfl }
open Go.RowKit Go.Sort Go.Lib in
theorem Tryz.strconv_Itoa (n : Int) (h0 : -9223372036854775808 ≤ n) (h1 : n ≤ 9223372036854775807) (w : World) (htab : Lib.TabIs Tryz.prog w "internal/strconv.uint64pow10" .u64 Lib.pow10Tab) :
  Calls Tryz.prog 77 #[.int .i64 n] w fun e w' => e = .returned (.string ⟨(Lib.itoa n).toArray⟩) ∧ ∃ k os, w' = grow (w.drewN k) os := Any.strconv_Itoa Tryz.laysM171 n h0 h1 w htab
def Tryz.YB : Go.Shelf.Ren := ⟨fun | 171 => 77 | 243 => 128 | 246 => 156 | 283 => 174 | 284 => 175 | 285 => 176 | 286 => 177 | 129 => 193 | 317 => 192 | 318 => 194 | 319 => 195 | 320 => 196 | 337 => 202 | 338 => 203 | n => n, fun | 3 => 3 | 9 => 9 | 2 => 2 | 4 => 4 | 171 => 231 | 0 => 0 | 53 => 232 | 37 => 24 | 5 => 5 | 173 => 235 | 212 => 245 | 51 => 199 | 20 => 20 | 213 => 246 | 46 => 181 | 232 => 252 | 233 => 253 | n => n, fun | 17 => 1 | 18 => 2 | 19 => 3 | n => n⟩
theorem Tryz.lays171 : Go.Proofs.Lays.n171 Tryz.prog Tryz.YB := {
 mixed := by kernel_rfl
 f129 := Tryz.func193.trans (congrArg some (by kernel_rfl))
 f171 := Tryz.func77.trans (congrArg some (by kernel_rfl))
 f243 := Tryz.func128.trans (congrArg some (by kernel_rfl))
 f246 := Tryz.func156.trans (congrArg some (by kernel_rfl))
 f283 := Tryz.func174.trans (congrArg some (by kernel_rfl))
 f284 := Tryz.func175.trans (congrArg some (by kernel_rfl))
 f285 := Tryz.func176.trans (congrArg some (by kernel_rfl))
 f286 := Tryz.func177.trans (congrArg some (by kernel_rfl))
 f317 := Tryz.func192.trans (congrArg some (by kernel_rfl))
 f318 := Tryz.func194.trans (congrArg some (by kernel_rfl))
 f319 := Tryz.func195.trans (congrArg some (by kernel_rfl))
 f320 := Tryz.func196.trans (congrArg some (by kernel_rfl))
 f337 := Tryz.func202.trans (congrArg some (by kernel_rfl))
 f338 := Tryz.func203.trans (congrArg some (by kernel_rfl))
 t0 := Tryz.underlying0
 a0 := Tryz.isAgg0
 z0 := Tryz.sizeOf0
 v0 := Tryz.zeroValue0
 t2 := Tryz.underlying2
 a2 := Tryz.isAgg2
 z2 := Tryz.sizeOf2
 v2 := Tryz.zeroValue2
 t3 := Tryz.underlying3
 a3 := Tryz.isAgg3
 z3 := Tryz.sizeOf3
 v3 := Tryz.zeroValue3
 t4 := Tryz.underlying4
 a4 := Tryz.isAgg4
 z4 := Tryz.sizeOf4
 v4 := Tryz.zeroValue4
 t5 := Tryz.underlying5
 a5 := Tryz.isAgg5
 z5 := Tryz.sizeOf5
 v5 := Tryz.zeroValue5
 t9 := Tryz.underlying9
 a9 := Tryz.isAgg9
 z9 := Tryz.sizeOf9
 v9 := Tryz.zeroValue9
 t20 := Tryz.underlying20
 a20 := Tryz.isAgg20
 z20 := Tryz.sizeOf20
 v20 := Tryz.zeroValue20
 t37 := Tryz.underlying24
 a37 := Tryz.isAgg24
 z37 := Tryz.sizeOf24
 v37 := Tryz.zeroValue24
 t46 := Tryz.underlying181
 a46 := Tryz.isAgg181
 z46 := Tryz.sizeOf181
 v46 := Tryz.zeroValue181
 t51 := Tryz.underlying199
 a51 := Tryz.isAgg199
 z51 := Tryz.sizeOf199
 v51 := Tryz.zeroValue199
 t53 := Tryz.underlying232
 a53 := Tryz.isAgg232
 z53 := Tryz.sizeOf232
 v53 := Tryz.zeroValue232
 t171 := Tryz.underlying231
 a171 := Tryz.isAgg231
 z171 := Tryz.sizeOf231
 v171 := Tryz.zeroValue231
 t173 := Tryz.underlying235
 a173 := Tryz.isAgg235
 z173 := Tryz.sizeOf235
 v173 := Tryz.zeroValue235
 t212 := Tryz.underlying245
 a212 := Tryz.isAgg245
 z212 := Tryz.sizeOf245
 v212 := Tryz.zeroValue245
 t213 := Tryz.underlying246
 a213 := Tryz.isAgg246
 z213 := Tryz.sizeOf246
 t232 := Tryz.underlying252
 a232 := Tryz.isAgg252
 z232 := Tryz.sizeOf252
 v232 := Tryz.zeroValue252
 t233 := Tryz.underlying253
 a233 := Tryz.isAgg253
 z233 := Tryz.sizeOf253
 v233 := Tryz.zeroValue253
 g17 := by kernel_rfl
 g18 := by kernel_rfl
 g19 := by kernel_rfl }
open Go.RowKit Go.Sort Go.Lib in
theorem Tryz.strconv_Itoa_small (i : Nat) (hi : i < 100) (w : World) :
  Calls Tryz.prog 77 #[.int .i64 i] w fun e w' => e = .returned (.string ⟨(Lib.decDigits i).toArray⟩) ∧ w' = w := Any.strconv_Itoa_small Tryz.lays171 i hi w
end Go.Proofs
end
