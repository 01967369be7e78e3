/- Part of a proof. No condition but those that its theorems state. -/
import Derived.Test.YtjdoakbadehicaaGreatDoorProg
import Derived.Test.YtjdoakbadehicaaGreatDoorQa
import Derived.KernelRfl
import Derived.Lib.RuneBytes
import Derived.Lib.OthersKept
import Derived.Lib.MapLaws
import Derived.Test.YtjdoakbadehicaaGreatDoorQb
import Derived.Lib.ItoaMem
import Derived.Lib.ItoaLen
import Derived.Laws.IdiomStrings
import Derived.Lib.SliceRun
import Derived.Shelf.Strings.Builder1
import Derived.Shelf.Strings.BuilderF
import Derived.Shelf.Strings.BuilderK
import Derived.Shelf.Strings.BuilderRune
import Derived.Shelf.Utf8.AppendRune
import Derived.Shelf.Utf8.AppendRunePlain
import Derived.Shelf.Strconv.Itoa0
import Derived.Shelf.Strconv.Itoa1
import Derived.Shelf.LaysM
import Derived.Shelf.Strconv.Itoa2
import Derived.Shelf.Strconv.Itoa3
import Derived.Shelf.Strings.BuilderCap
set_option linter.unusedVariables false
set_option linter.unusedSimpArgs false
section
namespace Go.Proofs.YtjdoakbadehicaaGreatDoor
open Go Go.Sh
section
variable (R : Ending → World → Prop) (w : World)
set_option maxRecDepth 100000
def F4 (a0 a1 a2 : Value) : Prop :=
 oB 32 a0 w R fun t3 w =>
 oC 8 #[] w R fun t18 w =>
 oU t18 w R fun t19 w =>
 cond t19 (R (.returned (.bool false)) w)
 (oL 32 t3 w R fun t21 w =>
 oC 22 #[t21, a1] w R fun t23 w =>
 oE t23 0 w R fun t24 w =>
 oE t23 1 w R fun t25 w =>
 oE t23 2 w R fun t26 w =>
 oU t26 w R fun t28 w =>
 gd t28 false (fun K => K a2 w) w fun t30 w =>
 gd t28 false (fun K => oC 9 #[t30] w R K) w fun t31 w =>
 gd t28 false (fun K => oU t31 w R K) w fun t32 w =>
 pick t28 (.bool true) t32 w fun t33 w =>
 cond t33 (R (.returned (.bool true)) w)
 (oC 13 #[t24] w R fun t35 w =>
 oC 20 #[t35, a2] w R fun t39 w =>
 oC 19 #[t39] w R fun t40 w =>
 oE t40 0 w R fun t41 w =>
 oE t40 1 w R fun t42 w =>
 oA 48 w R fun t11 w =>
 oS 48 t11 t41 w R fun _ w =>
 drawn w fun T w =>
 aQ T w (fun w K => oQ true .neq 25 t42 (Z.i 0) w aO K) fun t44 =>
 aQ T w (fun w K => gd t44 false (fun K => oF 48 t11 0 w aO K) w K) fun t46 =>
 aQ T w (fun w K => gd t44 false (fun K => oL 5 t46 w aO K) w K) fun t47 =>
 aQ T w (fun w K => gd t44 false (fun K => K a2 w) w K) fun t48 =>
 aQ T w (fun w K => gd t44 false (fun K => oQ false .neq 5 t47 t48 w aO K) w K) fun t49 =>
 aQ T w (fun w K => pick t44 (.bool true) t49 w K) fun t50 =>
 aQ T w (fun w K => gd t50 false (fun K => oF 48 t11 1 w aO K) w K) fun t52 =>
 aQ T w (fun w K => gd t50 false (fun K => oL 4 t52 w aO K) w K) fun t53 =>
 aQ T w (fun w K => gd t50 false (fun K => K a2 w) w K) fun t54 =>
 aQ T w (fun w K => gd t50 false (fun K => oC 10 #[t54] w aO K) w K) fun t55 =>
 aQ T w (fun w K => gd t50 false (fun K => oQ false .neq 4 t53 t55 w aO K) w K) fun t56 =>
 aQ T w (fun w K => pick t50 (.bool true) t56 w K) fun t57 =>
 ext w fun w =>
 cond t57 (R (.returned (.bool false)) w)
 (oG 48 t11 1 4 w R fun t59 w =>
 cond t59 (R (.returned (.bool true)) w)
 (oC 23 #[t35] w R fun t61 w =>
 drawn w fun T w =>
 qG T w 48 t11 2 3 fun t63 =>
 aQ T w (fun w K => oC 24 #[t35] w aO K) fun t65 =>
 aQ T w (fun w K => oQ false .neq 3 t63 t65 w aO K) fun t66 =>
 aQ T w (fun w K => gd t66 false (fun K => oF 48 t11 3 w aO K) w K) fun t68 =>
 aQ T w (fun w K => gd t66 false (fun K => oL 46 t68 w aO K) w K) fun t69 =>
 aQ T w (fun w K => gd t66 false (fun K => oN 46 t69 w aO K) w K) fun t70 =>
 aQ T w (fun w K => gd t66 false (fun K => K t61 w) w K) fun t71 =>
 aQ T w (fun w K => gd t66 false (fun K => oN 46 t71 w aO K) w K) fun t72 =>
 aQ T w (fun w K => gd t66 false (fun K => oQ false .neq 3 t70 t72 w aO K) w K) fun t73 =>
 aQ T w (fun w K => pick t66 (.bool true) t73 w K) fun t74 =>
 ext w fun w =>
 cond t74 (R (.returned (.bool false)) w)
 (join (upd (upd (upd (upd (upd (upd (upd (upd (upd (upd (upd (upd (upd (ini [a0, a1, a2]) 3 t3) 6 (.bool false)) 19 t19) 7 t24) 9 t26) 33 t33) 10 t35) 11 t11) 12 t42) 57 t57) 59 t59) 13 t61) 74 t74) (fun j1 =>
 oG 48 t11 3 46 w R fun t76 w =>
 oN 46 t76 w R fun t77 w =>
 loop (upd (upd (upd (upd (upd (upd (upd (upd (upd (upd (upd (upd (upd (upd (upd (upd (ini [a0, a1, a2]) 3 t3) 6 (.bool false)) 19 t19) 7 t24) 9 t26) 33 t33) 10 t35) 11 t11) 12 t42) 57 t57) 59 t59) 13 t61) 74 t74) 76 t76) 77 t77) 78 (Z.i 0)) w fun e2 g2 w j2 =>
 oP .lss 3 (g2 78) t77 w R fun t79 w =>
 cond t79 (join (upd (mix [79,15,14,123,125,126,128,17,16,169,6,127,78] g2 e2) 79 t79) (fun j3 =>
 oI 46 t76 (g2 78) w R fun t81 w =>
 oL 54 t81 w R fun t82 w =>
 oA 54 w R fun t15 w =>
 oS 54 t15 t82 w R fun _ w =>
 drawn w fun T w =>
 qG T w 54 t15 0 3 fun t84 =>
 aQ T w (fun w K => oI 46 t61 (g2 78) w aO K) fun t87 =>
 qG T w 54 t87 0 3 fun t89 =>
 aQ T w (fun w K => oQ false .neq 3 t84 t89 w aO K) fun t90 =>
 aQ T w (fun w K => gd t90 false (fun K => oF 54 t15 1 w aO K) w K) fun t92 =>
 aQ T w (fun w K => gd t90 false (fun K => oL 52 t92 w aO K) w K) fun t93 =>
 aQ T w (fun w K => gd t90 false (fun K => oN 52 t93 w aO K) w K) fun t94 =>
 aQ T w (fun w K => gd t90 false (fun K => K t61 w) w K) fun t95 =>
 aQ T w (fun w K => gd t90 false (fun K => K (g2 78) w) w K) fun t96 =>
 aQ T w (fun w K => gd t90 false (fun K => oI 46 t95 t96 w aO K) w K) fun t97 =>
 aQ T w (fun w K => gd t90 false (fun K => oF 54 t97 1 w aO K) w K) fun t98 =>
 aQ T w (fun w K => gd t90 false (fun K => oL 52 t98 w aO K) w K) fun t99 =>
 aQ T w (fun w K => gd t90 false (fun K => oN 52 t99 w aO K) w K) fun t100 =>
 aQ T w (fun w K => gd t90 false (fun K => oQ false .neq 3 t94 t100 w aO K) w K) fun t101 =>
 aQ T w (fun w K => pick t90 (.bool true) t101 w K) fun t102 =>
 aQ T w (fun w K => gd t102 false (fun K => K (g2 78) w) w K) fun t104 =>
 aQ T w (fun w K => gd t102 false (fun K => oP .gtr 3 t104 (Z.i 0) w aO K) w K) fun t105 =>
 aQ T w (fun w K => gd t102 false (fun K => K t105 w) w K) fun t106 =>
 aQ T w (fun w K => gd t106 true (fun K => oF 54 t15 0 w aO K) w K) fun t107 =>
 aQ T w (fun w K => gd t106 true (fun K => oL 3 t107 w aO K) w K) fun t108 =>
 aQ T w (fun w K => gd t106 true (fun K => oQ true .neq 3 t108 (Z.i 0) w aO K) w K) fun t109 =>
 aQ T w (fun w K => gd t102 false (fun K => pick t106 t109 (.bool false) w K) w K) fun t110 =>
 aQ T w (fun w K => gd t102 false (fun K => K t110 w) w K) fun t111 =>
 aQ T w (fun w K => gd t111 true (fun K => oF 54 t15 0 w aO K) w K) fun t112 =>
 aQ T w (fun w K => gd t111 true (fun K => oL 3 t112 w aO K) w K) fun t113 =>
 aQ T w (fun w K => gd t111 true (fun K => oF 48 t11 3 w aO K) w K) fun t114 =>
 aQ T w (fun w K => gd t111 true (fun K => oL 46 t114 w aO K) w K) fun t115 =>
 aQ T w (fun w K => gd t111 true (fun K => K (g2 78) w) w K) fun t116 =>
 aQ T w (fun w K => gd t111 true (fun K => oP .sub 3 t116 (Z.i 1) w aO K) w K) fun t117 =>
 aQ T w (fun w K => gd t111 true (fun K => oI 46 t115 t117 w aO K) w K) fun t118 =>
 aQ T w (fun w K => gd t111 true (fun K => oF 54 t118 0 w aO K) w K) fun t119 =>
 aQ T w (fun w K => gd t111 true (fun K => oL 3 t119 w aO K) w K) fun t120 =>
 aQ T w (fun w K => gd t111 true (fun K => oP .leq 3 t113 t120 w aO K) w K) fun t121 =>
 aQ T w (fun w K => gd t102 false (fun K => pick t111 t121 (.bool false) w K) w K) fun t122 =>
 aQ T w (fun w K => pick t102 (.bool true) t122 w K) fun t123 =>
 ext w fun w =>
 cond t123 (R (.returned (.bool false)) w)
 (oG 54 t15 1 52 w R fun t125 w =>
 oN 52 t125 w R fun t126 w =>
 loop (upd (upd (upd (upd (upd (upd (upd (mix [79,15,14,123,125,126,128,17,16,169,6,127,78] g2 e2) 79 t79) 15 t15) 14 (g2 78)) 123 t123) 125 t125) 126 t126) 127 (Z.i 0)) w fun e4 g4 w j4 =>
 oP .lss 3 (g4 127) t126 w R fun t128 w =>
 cond t128 (oI 52 t125 (g4 127) w R fun t130 w =>
 oL 37 t130 w R fun t131 w =>
 oA 37 w R fun t17 w =>
 oS 37 t17 t131 w R fun _ w =>
 drawn w fun T w =>
 qG T w 37 t17 0 5 fun t133 =>
 aQ T w (fun w K => oI 46 t61 (g2 78) w aO K) fun t136 =>
 qG T w 54 t136 1 52 fun t138 =>
 aQ T w (fun w K => oI 52 t138 (g4 127) w aO K) fun t140 =>
 qG T w 37 t140 0 5 fun t142 =>
 aQ T w (fun w K => oQ false .neq 5 t133 t142 w aO K) fun t143 =>
 aQ T w (fun w K => gd t143 true (fun K => K t61 w) w K) fun t145 =>
 aQ T w (fun w K => gd t143 true (fun K => K (g2 78) w) w K) fun t146 =>
 aQ T w (fun w K => gd t143 true (fun K => oI 46 t145 t146 w aO K) w K) fun t147 =>
 aQ T w (fun w K => gd t143 true (fun K => oF 54 t147 1 w aO K) w K) fun t148 =>
 aQ T w (fun w K => gd t143 true (fun K => oL 52 t148 w aO K) w K) fun t149 =>
 aQ T w (fun w K => gd t143 true (fun K => K (g4 127) w) w K) fun t150 =>
 aQ T w (fun w K => gd t143 true (fun K => oI 52 t149 t150 w aO K) w K) fun t151 =>
 aQ T w (fun w K => gd t143 true (fun K => oF 37 t151 0 w aO K) w K) fun t152 =>
 aQ T w (fun w K => gd t143 true (fun K => oL 5 t152 w aO K) w K) fun t153 =>
 aQ T w (fun w K => gd t143 true (fun K => oP .geq 5 t153 (Z.u 64) w aO K) w K) fun t154 =>
 aQ T w (fun w K => pick t143 t154 (.bool false) w K) fun t155 =>
 aQ T w (fun w K => gd t155 false (fun K => oF 37 t17 1 w aO K) w K) fun t157 =>
 aQ T w (fun w K => gd t155 false (fun K => oL 4 t157 w aO K) w K) fun t158 =>
 aQ T w (fun w K => gd t155 false (fun K => K t61 w) w K) fun t159 =>
 aQ T w (fun w K => gd t155 false (fun K => K (g2 78) w) w K) fun t160 =>
 aQ T w (fun w K => gd t155 false (fun K => oI 46 t159 t160 w aO K) w K) fun t161 =>
 aQ T w (fun w K => gd t155 false (fun K => oF 54 t161 1 w aO K) w K) fun t162 =>
 aQ T w (fun w K => gd t155 false (fun K => oL 52 t162 w aO K) w K) fun t163 =>
 aQ T w (fun w K => gd t155 false (fun K => K (g4 127) w) w K) fun t164 =>
 aQ T w (fun w K => gd t155 false (fun K => oI 52 t163 t164 w aO K) w K) fun t165 =>
 aQ T w (fun w K => gd t155 false (fun K => oF 37 t165 1 w aO K) w K) fun t166 =>
 aQ T w (fun w K => gd t155 false (fun K => oL 4 t166 w aO K) w K) fun t167 =>
 aQ T w (fun w K => gd t155 false (fun K => oQ false .neq 4 t158 t167 w aO K) w K) fun t168 =>
 aQ T w (fun w K => pick t155 (.bool true) t168 w K) fun t169 =>
 ext w fun w =>
 cond t169 (R (.returned (.bool false)) w)
 (oP .add 3 (g4 127) (Z.i 1) w R fun t170 w =>
 j4 (upd (upd (upd (upd (upd (mix [128,17,16,169,6,127] g4 e4) 128 t128) 17 t17) 16 (g4 127)) 169 t169) 127 t170) w))
 (j3 (upd (mix [128,17,16,169,6,127] g4 e4) 128 t128) w))) fun e3 g3 w =>
 oP .add 3 (g2 78) (Z.i 1) w R fun t171 w =>
 j2 (upd (mix [15,14,123,125,126,128,17,16,169,6,127] g3 e3) 78 t171) w)
 (j1 (upd (mix [79,15,14,123,125,126,128,17,16,169,6,127,78] g2 e2) 79 t79) w)) fun e1 g1 w =>
 R (.returned (.bool true)) w)))))
theorem F4.calls {R w a0 a1 a2} : F4 R w a0 a1 a2 → oX 4 #[a0, a1, a2] w R := Z.k [0,1,2,3,6,7,9,10,11,12,13,14,15,16,17,19,33,57,59,74,76,77,78,79,123,125,126,127,128,169]
def Xa (a0 a1 : Value) : Prop :=
 oB 32 a0 w R fun t2 w =>
 oL 32 t2 w R fun t13 w =>
 oL 32 t2 w R fun t14 w =>
 oC 12 #[t13, t14] w R fun t15 w =>
 oE t15 0 w R fun t16 w =>
 oE t15 1 w R fun t17 w =>
 oQ true .neq 25 t17 (Z.i 0) w R fun t19 w =>
 gd t19 false (fun K => K t16 w) w fun t21 w =>
 gd t19 false (fun K => oC 13 #[t21] w R K) w fun t22 w =>
 gd t19 false (fun K => oC 30 #[t22] w R K) w fun t23 w =>
 gd t19 false (fun K => oP .gtr 3 t23 (Z.i 60) w R K) w fun t24 w =>
 pick t19 (.bool true) t24 w fun t25 w =>
 gd t25 false (fun K => K a1 w) w fun t27 w =>
 gd t25 false (fun K => oN 57 t27 w R K) w fun t28 w =>
 gd t25 false (fun K => oP .gtr 3 t28 (Z.i 20) w R K) w fun t29 w =>
 pick t25 (.bool true) t29 w fun t30 w =>
 cond t30 (R (.returned (.tuple #[(.pointer none), (.pointer none), (.bool false)])) w)
 (oC 15 #[t16] w R fun t32 w =>
 oC 16 #[t32] w R fun t34 w =>
 oC 17 #[t34] w R fun t35 w =>
 join (upd (upd (upd (upd (upd (upd (upd (upd (ini [a0, a1]) 2 t2) 4 (.pointer none)) 5 (.pointer none)) 6 (.bool false)) 7 t16) 8 t17) 30 t30) 9 t32) (fun j1 =>
 oN 57 a1 w R fun t37 w =>
 loop (upd (upd (upd (upd (upd (upd (upd (upd (upd (upd (upd (ini [a0, a1]) 2 t2) 4 (.pointer none)) 5 (.pointer none)) 6 (.bool false)) 7 t16) 8 t17) 30 t30) 9 t32) 36 a1) 37 t37) 38 (Z.i 0)) w fun e2 g2 w j2 =>
 oP .lss 3 (g2 38) t37 w R fun t39 w =>
 cond t39 (join (upd (mix [39,11,45,4,5,6,49,38] g2 e2) 39 t39) (fun j3 =>
 oI 57 a1 (g2 38) w R fun t40 w =>
 oL 118 t40 w R fun t41 w =>
 oA 118 w R fun t11 w =>
 oS 118 t11 t41 w R fun _ w =>
 oG 118 t11 0 24 w R fun t43 w =>
 oN 24 t43 w R fun t44 w =>
 oP .gtr 3 t44 (Z.i 150) w R fun t45 w =>
 cond t45 (R (.returned (.tuple #[(.pointer none), (.pointer none), (.bool false)])) w)
 (oG 118 t11 0 24 w R fun t47 w =>
 oN 24 t47 w R fun t48 w =>
 oP .gtr 3 t48 (Z.i 0) w R fun t49 w =>
 cond t49 (oG 118 t11 0 24 w R fun t53 w =>
 oC 27 #[t16, t53] w R fun t54 w =>
 oC 26 #[t32, t54] w R fun t55 w =>
 j3 (upd (upd (upd (upd (mix [39,11,45,4,5,6,49,38] g2 e2) 39 t39) 11 t11) 45 t45) 49 t49) w)
 (oG 118 t11 1 45 w R fun t58 w =>
 oC 18 #[t32, t58] w R fun t59 w =>
 j3 (upd (upd (upd (upd (mix [39,11,45,4,5,6,49,38] g2 e2) 39 t39) 11 t11) 45 t45) 49 t49) w))) fun e3 g3 w =>
 oP .add 3 (g2 38) (Z.i 1) w R fun t60 w =>
 j2 (upd (mix [11,45,4,5,6,49] g3 e3) 38 t60) w)
 (j1 (upd (mix [39,11,45,4,5,6,49,38] g2 e2) 39 t39) w)) fun e1 g1 w =>
 R (.returned (.tuple #[t16, t32, (.bool true)])) w)
theorem Xa.calls {R w a0 a1} : Xa R w a0 a1 → oX 22 #[a0, a1] w R := Z.k [0,1,2,4,5,6,7,8,9,11,30,36,37,38,39,45,49]
def F23 (a0 : Value) : Prop :=
 aX ((Instr.buildSlice 46 0 #[]).run Tryz.prog w) R fun t9 w =>
 oD 54 #[(0, (Z.i (-1)))] w R fun t10 w =>
 oA 54 w R fun t4 w =>
 oS 54 t4 t10 w R fun _ w =>
 join (upd (upd (upd (ini [a0]) 2 (.slice none 0 0)) 3 t9) 4 t4) (fun j1 =>
 oC 30 #[a0] w R fun t12 w =>
 loop (upd (upd (upd (upd (upd (ini [a0]) 2 (.slice none 0 0)) 3 t9) 4 t4) 12 t12) 13 (Z.i 0)) w fun e2 g2 w j2 =>
 oP .lss 3 (g2 13) t12 w R fun t14 w =>
 cond t14 (join (upd (mix [14,5,6,30,13] g2 e2) 14 t14) (fun j3 =>
 oC 31 #[a0, (g2 13)] w R fun t18 w =>
 oA 37 w R fun t6 w =>
 oS 37 t6 t18 w R fun _ w =>
 oG 37 t6 2 4 w R fun t20 w =>
 oU t20 w R fun t21 w =>
 gd t21 true (fun K => oF 37 t6 0 w R K) w fun t23 w =>
 gd t21 true (fun K => oL 5 t23 w R K) w fun t24 w =>
 gd t21 true (fun K => oQ true .neq 5 t24 (Z.u 0) w R K) w fun t25 w =>
 gd t21 true (fun K => K t25 w) w fun t26 w =>
 gd t26 false (fun K => oF 37 t6 1 w R K) w fun t27 w =>
 gd t26 false (fun K => oL 4 t27 w R K) w fun t28 w =>
 gd t21 true (fun K => pick t26 (.bool true) t28 w K) w fun t29 w =>
 pick t21 t29 (.bool false) w fun t30 w =>
 cond t30 (oG 54 t4 1 52 w R fun t32 w =>
 oL 37 t6 w R fun t33 w =>
 aX ((Instr.buildSlice 52 1 #[(0, t33)]).run Tryz.prog w) R fun t34 w =>
 aX ((Builtin.append_ #[52, 52] 52 #[t32, t34]).run Tryz.prog w) R fun t35 w =>
 oF 54 t4 1 w R fun t36 w =>
 oS 52 t36 t35 w R fun _ w =>
 j3 (upd (upd (upd (upd (mix [14,5,6,30,13] g2 e2) 14 t14) 5 (g2 13)) 6 t6) 30 t30) w)
 (j3 (upd (upd (upd (upd (mix [14,5,6,30,13] g2 e2) 14 t14) 5 (g2 13)) 6 t6) 30 t30) w)) fun e3 g3 w =>
 oP .add 3 (g2 13) (Z.i 1) w R fun t37 w =>
 j2 (upd (mix [5,6,30] g3 e3) 13 t37) w)
 (j1 (upd (mix [14,5,6,30,13] g2 e2) 14 t14) w)) fun e1 g1 w =>
 oC 61 #[a0] w R fun t39 w =>
 oU t39 w R fun t40 w =>
 cond t40 (join (upd (mix [12,14,5,6,30,13] g1 e1) 40 t40) (fun j4 =>
 oG 54 t4 1 52 w R fun t42 w =>
 oN 52 t42 w R fun t43 w =>
 oP .gtr 3 t43 (Z.i 0) w R fun t44 w =>
 cond t44 (oL 54 t4 w R fun t46 w =>
 aX ((Instr.buildSlice 46 1 #[(0, t46)]).run Tryz.prog w) R fun t47 w =>
 aX ((Builtin.append_ #[46, 46] 46 #[t9, t47]).run Tryz.prog w) R fun t48 w =>
 j4 (upd (upd (upd (mix [12,14,5,6,30,13] g1 e1) 40 t40) 44 t44) 3 t48) w)
 (j4 (upd (upd (mix [12,14,5,6,30,13] g1 e1) 40 t40) 44 t44) w)) fun e4 g4 w =>
 R (.returned (g4 3)) w)
 (join (upd (mix [12,14,5,6,30,13] g1 e1) 40 t40) (fun j5 =>
 oC 30 #[a0] w R fun t51 w =>
 loop (upd (upd (upd (mix [12,14,5,6,30,13] g1 e1) 40 t40) 51 t51) 52 (Z.i 0)) w fun e6 g6 w j6 =>
 oP .lss 3 (g6 52) t51 w R fun t53 w =>
 cond t53 (join (upd (mix [53,7,8,65,3,52] g6 e6) 53 t53) (fun j7 =>
 oC 31 #[a0, (g6 52)] w R fun t57 w =>
 oA 37 w R fun t8 w =>
 oS 37 t8 t57 w R fun _ w =>
 oG 37 t8 2 4 w R fun t59 w =>
 gd t59 true (fun K => oF 37 t8 0 w R K) w fun t61 w =>
 gd t59 true (fun K => oL 5 t61 w R K) w fun t62 w =>
 gd t59 true (fun K => oP .and 5 t62 (Z.u 1) w R K) w fun t63 w =>
 gd t59 true (fun K => oQ true .eql 5 t63 (Z.u 1) w R K) w fun t64 w =>
 pick t59 t64 (.bool false) w fun t65 w =>
 cond t65 (oC 62 #[a0, (g6 52)] w R fun t69 w =>
 aX ((Instr.buildSlice 46 1 #[(0, t69)]).run Tryz.prog w) R fun t70 w =>
 aX ((Builtin.append_ #[46, 46] 46 #[(g6 3), t70]).run Tryz.prog w) R fun t71 w =>
 j7 (upd (upd (upd (upd (upd (mix [53,7,8,65,3,52] g6 e6) 53 t53) 7 (g6 52)) 8 t8) 65 t65) 3 t71) w)
 (j7 (upd (upd (upd (upd (mix [53,7,8,65,3,52] g6 e6) 53 t53) 7 (g6 52)) 8 t8) 65 t65) w)) fun e7 g7 w =>
 oP .add 3 (g6 52) (Z.i 1) w R fun t72 w =>
 j6 (upd (mix [7,8,65,3] g7 e7) 52 t72) w)
 (j5 (upd (mix [53,7,8,65,3,52] g6 e6) 53 t53) w)) fun e5 g5 w =>
 R (.returned (g5 3)) w)
theorem F23.calls {R w a0} : F23 R w a0 → oX 23 #[a0] w R := Z.k [0,2,3,4,5,6,7,8,12,13,14,30,40,44,51,52,53,65]
def F26 (a0 a1 : Value) : Prop :=
 oB 66 a1 w R fun t3 w =>
 oG 66 t3 1 4 w R fun t5 w =>
 cond t5 (bW a0 w fun t7 w =>
 oF 95 t7 1 w R fun t8 w =>
 oC 63 #[t8] w R fun t9 w =>
 bW a0 w fun t12 w =>
 oF 95 t12 2 w R fun t13 w =>
 oS 4 t13 (.bool false) w R fun _ w =>
 bW a0 w fun t14 w =>
 oF 95 t14 3 w R fun t15 w =>
 oS 5 t15 (Z.u 96) w R fun _ w =>
 R (.returned (.tuple #[])) w)
 (R (.returned (.tuple #[])) w)
theorem F26.calls {R w a0 a1} : F26 R w a0 a1 → oX 26 #[a0, a1] w R := Z.k [0,1,3,5]
def F27 (a0 a1 : Value) : Prop :=
 oA 66 w R fun t4 w =>
 oC 64 #[a1] w R fun t9 w =>
 oE t9 0 w R fun t10 w =>
 oE t9 1 w R fun t11 w =>
 oA 124 w R fun t5 w =>
 oS 124 t5 t10 w R fun _ w =>
 oQ true .neq 25 t11 (Z.i 0) w R fun t13 w =>
 cond t13 (oD 66 #[(3, t11)] w R fun t15 w =>
 oS 66 t4 t15 w R fun _ w =>
 jd ((Instr.loadAt 66 t4).run Tryz.prog w) w fun r0 =>
 R (.returned r0) w)
 (oL 124 t5 w R fun t17 w =>
 oC 65 #[a0, t17] w R fun t18 w =>
 oS 66 t4 t18 w R fun _ w =>
 jd ((Instr.loadAt 66 t4).run Tryz.prog w) w fun r0 =>
 R (.returned r0) w)
theorem F27.calls {R w a0 a1} : F27 R w a0 a1 → oX 27 #[a0, a1] w R := Z.k [0,1,4,5,6,13]
def F47 (a0 : Value) : Prop :=
 bW a0 w fun t4 w =>
 oG 93 t4 0 3 w R fun t6 w =>
 oQ true .neq 3 t6 (Z.i 3) w R fun t7 w =>
 cond t7 (R (.returned (.bool false)) w)
 (oC 17 #[a0] w R fun t9 w =>
 R (.returned (.bool true)) w)
theorem F47.calls {R w a0} : F47 R w a0 → oX 47 #[a0] w R := Z.k [0,2,7]
def F62 (a0 a1 : Value) : Prop :=
 oA 54 w R fun t4 w =>
 oP .add 3 a1 (Z.i 1) w R fun t9 w =>
 oC 30 #[a0] w R fun t11 w =>
 oP .rem 3 t9 t11 w R fun t12 w =>
 oD 54 #[(0, t12)] w R fun t13 w =>
 oA 54 w R fun t5 w =>
 oS 54 t5 t13 w R fun _ w =>
 join (upd (upd (ini [a0, a1]) 4 t4) 5 t5) (fun j1 =>
 loop (upd (upd (upd (ini [a0, a1]) 4 t4) 5 t5) 6 (Z.i 1)) w fun e2 g2 w j2 =>
 oC 30 #[a0] w R fun t16 w =>
 oP .lss 3 (g2 6) t16 w R fun t17 w =>
 cond t17 (join (upd (mix [17,7,29,37,6] g2 e2) 17 t17) (fun j3 =>
 oP .add 3 a1 (g2 6) w R fun t23 w =>
 oC 30 #[a0] w R fun t25 w =>
 oP .rem 3 t23 t25 w R fun t26 w =>
 oC 31 #[a0, t26] w R fun t27 w =>
 oA 37 w R fun t7 w =>
 oS 37 t7 t27 w R fun _ w =>
 oG 37 t7 2 4 w R fun t29 w =>
 cond t29 (oL 54 t5 w R fun t30 w =>
 oS 54 t4 t30 w R fun _ w =>
 jd ((Instr.loadAt 54 t4).run Tryz.prog w) w fun r0 =>
 R (.returned r0) w)
 (oG 37 t7 0 5 w R fun t32 w =>
 oQ true .neq 5 t32 (Z.u 0) w R fun t33 w =>
 gd t33 false (fun K => oF 37 t7 1 w R K) w fun t35 w =>
 gd t33 false (fun K => oL 4 t35 w R K) w fun t36 w =>
 pick t33 (.bool true) t36 w fun t37 w =>
 cond t37 (oG 54 t5 1 52 w R fun t39 w =>
 oL 37 t7 w R fun t40 w =>
 aX ((Instr.buildSlice 52 1 #[(0, t40)]).run Tryz.prog w) R fun t41 w =>
 aX ((Builtin.append_ #[52, 52] 52 #[t39, t41]).run Tryz.prog w) R fun t42 w =>
 oF 54 t5 1 w R fun t43 w =>
 oS 52 t43 t42 w R fun _ w =>
 j3 (upd (upd (upd (upd (mix [17,7,29,37,6] g2 e2) 17 t17) 7 t7) 29 t29) 37 t37) w)
 (j3 (upd (upd (upd (upd (mix [17,7,29,37,6] g2 e2) 17 t17) 7 t7) 29 t29) 37 t37) w))) fun e3 g3 w =>
 oP .add 3 (g2 6) (Z.i 1) w R fun t19 w =>
 j2 (upd (mix [7,29,37] g3 e3) 6 t19) w)
 (j1 (upd (mix [17,7,29,37,6] g2 e2) 17 t17) w)) fun e1 g1 w =>
 oL 54 t5 w R fun t44 w =>
 oS 54 t4 t44 w R fun _ w =>
 jd ((Instr.loadAt 54 t4).run Tryz.prog w) w fun r0 =>
 R (.returned r0) w
theorem F62.calls {R w a0 a1} : F62 R w a0 a1 → oX 62 #[a0, a1] w R := Z.k [0,1,4,5,6,7,17,29,37]
def F63 (a0 : Value) : Prop :=
 bW a0 w fun t4 w =>
 oG 93 t4 0 3 w R fun t6 w =>
 oQ true .neq 3 t6 (Z.i 3) w R fun t7 w =>
 gd t7 true (fun K => K a0 w) w fun t9 w =>
 gd t7 true (fun K => bW t9 w K) w fun t10 w =>
 gd t7 true (fun K => oF 93 t10 0 w R K) w fun t11 w =>
 gd t7 true (fun K => oL 3 t11 w R K) w fun t12 w =>
 gd t7 true (fun K => oQ true .neq 3 t12 (Z.i 2) w R K) w fun t13 w =>
 pick t7 t13 (.bool false) w fun t14 w =>
 cond t14 (R (.returned (.bool false)) w)
 (oC 17 #[a0] w R fun t16 w =>
 R (.returned (.bool true)) w)
theorem F63.calls {R w a0} : F63 R w a0 → oX 63 #[a0] w R := Z.k [0,2,14]
def WJ (a0 : Value) : Prop :=
 oA 124 w R fun t2 w =>
 oN 24 a0 w R fun t8 w =>
 oQ true .eql 3 t8 (Z.i 0) w R fun t9 w =>
 cond t9 (oD 124 #[] w R fun t10 w =>
 oS 124 t2 t10 w R fun _ w =>
 jd ((Instr.loadAt 124 t2).run Tryz.prog w) w fun r0 =>
 R (.returned (.tuple #[r0, (Z.i 30)])) w)
 (oI 24 a0 (Z.i 0) w R fun t13 w =>
 oL 5 t13 w R fun t14 w =>
 oC 102 #[t14] w R fun t15 w =>
 oE t15 0 w R fun t16 w =>
 oE t15 1 w R fun t17 w =>
 oA 158 w R fun t4 w =>
 oS 158 t4 t16 w R fun _ w =>
 oG 158 t4 0 5 w R fun t19 w =>
 oD 124 #[(0, t19)] w R fun t20 w =>
 oA 124 w R fun t6 w =>
 oS 124 t6 t20 w R fun _ w =>
 join (upd (upd (upd (upd (upd (upd (ini [a0]) 2 t2) 3 (Z.i 0)) 9 t9) 4 t4) 5 t17) 6 t6) (fun j1 =>
 oU t17 w R fun t23 w =>
 cond t23 (oD 124 #[] w R fun t24 w =>
 oS 124 t2 t24 w R fun _ w =>
 jd ((Instr.loadAt 124 t2).run Tryz.prog w) w fun r0 =>
 R (.returned (.tuple #[r0, (Z.i 30)])) w)
 (oG 158 t4 0 5 w R fun t27 w =>
 oC 103 #[t27] w R fun t28 w =>
 gd t28 true (fun K => K a0 w) w fun t30 w =>
 gd t28 true (fun K => oN 24 t30 w R K) w fun t31 w =>
 gd t28 true (fun K => oP .lss 3 t31 (Z.i 2) w R K) w fun t32 w =>
 pick t28 t32 (.bool false) w fun t33 w =>
 cond t33 (oD 124 #[] w R fun t34 w =>
 oS 124 t2 t34 w R fun _ w =>
 jd ((Instr.loadAt 124 t2).run Tryz.prog w) w fun r0 =>
 R (.returned (.tuple #[r0, (Z.i 20)])) w)
 (oG 158 t4 0 5 w R fun t37 w =>
 oC 103 #[t37] w R fun t38 w =>
 cond t38 (oI 24 a0 (Z.i 1) w R fun t40 w =>
 oL 5 t40 w R fun t41 w =>
 oF 124 t6 1 w R fun t42 w =>
 oS 5 t42 t41 w R fun _ w =>
 aX ((Instr.sliceAt 24 a0 (some (Z.i 2)) none none).run Tryz.prog w) R fun t45 w =>
 oC 104 #[t45] w R fun t46 w =>
 oE t46 0 w R fun t47 w =>
 oE t46 1 w R fun t48 w =>
 oE t46 2 w R fun t49 w =>
 oF 124 t6 2 w R fun t50 w =>
 oS 121 t50 t47 w R fun _ w =>
 oF 124 t6 3 w R fun t51 w =>
 oS 25 t51 t49 w R fun _ w =>
 j1 (upd (upd (upd (upd (upd (upd (upd (upd (upd (ini [a0]) 2 t2) 3 (Z.i 0)) 9 t9) 4 t4) 5 t17) 6 t6) 21 t23) 25 t33) 35 t38) w)
 (oG 158 t4 0 5 w R fun t54 w =>
 oQ true .eql 5 t54 (Z.u 243) w R fun t55 w =>
 cond t55 (aX ((Instr.sliceAt 24 a0 (some (Z.i 1)) none none).run Tryz.prog w) R fun t58 w =>
 oC 105 #[t58] w R fun t59 w =>
 oE t59 0 w R fun t60 w =>
 oE t59 1 w R fun t61 w =>
 oF 124 t6 4 w R fun t62 w =>
 oS 122 t62 t60 w R fun _ w =>
 oF 124 t6 3 w R fun t63 w =>
 oS 25 t63 t61 w R fun _ w =>
 j1 (upd (upd (upd (upd (upd (upd (upd (upd (upd (upd (ini [a0]) 2 t2) 3 (Z.i 0)) 9 t9) 4 t4) 5 t17) 6 t6) 21 t23) 25 t33) 35 t38) 52 t55) w)
 (j1 (upd (upd (upd (upd (upd (upd (upd (upd (upd (upd (ini [a0]) 2 t2) 3 (Z.i 0)) 9 t9) 4 t4) 5 t17) 6 t6) 21 t23) 25 t33) 35 t38) 52 t55) w))))) fun e1 g1 w =>
 oL 124 t6 w R fun t64 w =>
 oS 124 t2 t64 w R fun _ w =>
 jd ((Instr.loadAt 124 t2).run Tryz.prog w) w fun r0 =>
 R (.returned (.tuple #[r0, (Z.i 0)])) w)
theorem WJ.calls {R w a0} : WJ R w a0 → oX 64 #[a0] w R := Z.k [0,2,3,4,5,6,9,21,25,35,52]
def Xb (a0 a1 : Value) : Prop :=
 oB 124 a1 w R fun t3 w =>
 oA 66 w R fun t4 w =>
 oG 124 t3 0 5 w R fun t6 w =>
 oQ true .eql 5 t6 (Z.u 241) w R fun t8 w =>
 cond t8 (join (upd (upd (upd (upd (ini [a0, a1]) 3 t3) 4 t4) 6 t6) 7 t8) (fun j1 =>
 oG 124 t3 1 5 w R fun t10 w =>
 oC 106 #[t10] w R fun t11 w =>
 cond t11 (bW a0 w fun t13 w =>
 oG 89 t13 2 33 w R fun t15 w =>
 oC 107 #[t15] w R fun t16 w =>
 j1 (upd (upd (upd (upd (upd (ini [a0, a1]) 3 t3) 4 t4) 6 t6) 7 t8) 11 t11) w)
 (j1 (upd (upd (upd (upd (upd (ini [a0, a1]) 3 t3) 4 t4) 6 t6) 7 t8) 11 t11) w)) fun e1 g1 w =>
 drawn w fun T w =>
 aQ T w (fun w K => oL 124 t3 w aO K) fun t18 =>
 aQ T w (fun w K => bW a0 w K) fun t20 =>
 qG T w 89 t20 2 33 fun t22 =>
 aQ T w (fun w K => oC 24 #[t22] w aO K) fun t23 =>
 ext w fun w =>
 oC 108 #[a0, t18, t23] w R fun t24 w =>
 ext w fun w =>
 oS 66 t4 t24 w R fun _ w =>
 ext w fun w =>
 jd ((Instr.loadAt 66 t4).run Tryz.prog w) w fun r0 =>
 R (.returned r0) w)
 (oQ true .eql 5 t6 (Z.u 245) w R fun t26 w =>
 cond t26 (oL 124 t3 w R fun t28 w =>
 oC 109 #[a0, t28, (Z.i 0)] w R fun t29 w =>
 oS 66 t4 t29 w R fun _ w =>
 jd ((Instr.loadAt 66 t4).run Tryz.prog w) w fun r0 =>
 R (.returned r0) w)
 (oQ true .eql 5 t6 (Z.u 126) w R fun t31 w =>
 cond t31 (oL 124 t3 w R fun t33 w =>
 oC 109 #[a0, t33, (Z.i 1)] w R fun t34 w =>
 oS 66 t4 t34 w R fun _ w =>
 jd ((Instr.loadAt 66 t4).run Tryz.prog w) w fun r0 =>
 R (.returned r0) w)
 (oQ true .eql 5 t6 (Z.u 111) w R fun t36 w =>
 cond t36 (bW a0 w fun t38 w =>
 oG 89 t38 2 33 w R fun t40 w =>
 oC 90 #[t40] w R fun t41 w =>
 oD 66 #[(1, (.bool true))] w R fun t42 w =>
 oS 66 t4 t42 w R fun _ w =>
 jd ((Instr.loadAt 66 t4).run Tryz.prog w) w fun r0 =>
 R (.returned r0) w)
 (join (upd (upd (upd (upd (upd (upd (upd (ini [a0, a1]) 3 t3) 4 t4) 6 t6) 7 t8) 25 t26) 30 t31) 35 t36) (fun j2 =>
 oQ true .eql 5 t6 (Z.u 242) w R fun t44 w =>
 cond t44 (j2 (upd (upd (upd (upd (upd (upd (upd (upd (ini [a0, a1]) 3 t3) 4 t4) 6 t6) 7 t8) 25 t26) 30 t31) 35 t36) 43 t44) w)
 (oQ true .eql 5 t6 (Z.u 246) w R fun t45 w =>
 cond t45 (j2 (upd (upd (upd (upd (upd (upd (upd (upd (upd (ini [a0, a1]) 3 t3) 4 t4) 6 t6) 7 t8) 25 t26) 30 t31) 35 t36) 43 t44) 43 t45) w)
 (oQ true .eql 5 t6 (Z.u 110) w R fun t46 w =>
 j2 (upd (upd (upd (upd (upd (upd (upd (upd (upd (upd (ini [a0, a1]) 3 t3) 4 t4) 6 t6) 7 t8) 25 t26) 30 t31) 35 t36) 43 t44) 43 t45) 43 t46) w))) fun e2 g2 w =>
 cond (g2 43) (oG 124 t3 0 5 w R fun t48 w =>
 oD 66 #[(0, t48)] w R fun t49 w =>
 oS 66 t4 t49 w R fun _ w =>
 jd ((Instr.loadAt 66 t4).run Tryz.prog w) w fun r0 =>
 R (.returned r0) w)
 (oQ true .eql 5 t6 (Z.u 243) w R fun t51 w =>
 cond t51 (oL 124 t3 w R fun t53 w =>
 oC 110 #[a0, t53] w R fun t54 w =>
 oS 66 t4 t54 w R fun _ w =>
 jd ((Instr.loadAt 66 t4).run Tryz.prog w) w fun r0 =>
 R (.returned r0) w)
 (oD 66 #[(3, (Z.i 30))] w R fun t55 w =>
 oS 66 t4 t55 w R fun _ w =>
 jd ((Instr.loadAt 66 t4).run Tryz.prog w) w fun r0 =>
 R (.returned r0) w))))))
theorem Xb.calls {R w a0 a1} : Xb R w a0 a1 → oX 65 #[a0, a1] w R := Z.k [0,1,3,4,6,7,11,25,30,35,43,50]
def F72 (a0 : Value) : Prop :=
 oB 33 a0 w R fun t1 w =>
 drawn w fun T w =>
 aQ T w (fun w K => oL 33 t1 w aO K) fun t5 =>
 aQ T w (fun w K => oL 33 t1 w aO K) fun t6 =>
 aQ T w (fun w K => oC 24 #[t6] w aO K) fun t7 =>
 ext w fun w =>
 oC 120 #[t5, t7] w R fun t8 w =>
 ext w fun w =>
 aX ((Instr.makeFunc (.func 122) #[] #[t1]).run Tryz.prog w) R fun t10 w =>
 oC 121 #[t8, t10] w R fun t11 w =>
 oP .lss 3 t11 (Z.i 0) w R fun t13 w =>
 cond t13 (R (.returned (Z.i 43)) w)
 (join (upd (upd (upd (upd (upd (ini [a0]) 1 t1) 2 (Z.i 0)) 3 t8) 4 t11) 13 t13) (fun j1 =>
 loop (upd (upd (upd (upd (upd (ini [a0]) 1 t1) 2 (Z.i 0)) 3 t8) 4 t11) 13 t13) w fun e2 g2 w j2 =>
 oP .gtr 3 (g2 4) (Z.i 0) w R fun t15 w =>
 cond t15 (drawn w fun T w =>
 aQ T w (fun w K => oL 33 t1 w aO K) fun t18 =>
 aQ T w (fun w K => oI 176 t8 (g2 4) w aO K) fun t21 =>
 aQ T w (fun w K => oL 3 t21 w aO K) fun t22 =>
 aQ T w (fun w K => oL 33 t1 w aO K) fun t23 =>
 aQ T w (fun w K => oP .sub 3 (g2 4) (Z.i 1) w aO K) fun t26 =>
 aQ T w (fun w K => oI 176 t8 t26 w aO K) fun t27 =>
 aQ T w (fun w K => oL 3 t27 w aO K) fun t28 =>
 aQ T w (fun w K => oC 31 #[t23, t28] w aO K) fun t29 =>
 ext w fun w =>
 oC 14 #[t18, t22, t29] w R fun t30 w =>
 ext w fun w =>
 oP .sub 3 (g2 4) (Z.i 1) w R fun t17 w =>
 j2 (upd (upd (mix [15,4] g2 e2) 15 t15) 4 t17) w)
 (j1 (upd (mix [15,4] g2 e2) 15 t15) w)) fun e1 g1 w =>
 R (.returned (Z.i 0)) w)
theorem F72.calls {R w a0} : F72 R w a0 → oX 72 #[a0] w R := Z.k [0,1,2,3,4,13,15]
def F84 (a0 : Value) : Prop :=
 oC 24 #[a0] w R fun t6 w =>
 oC 130 #[a0, t6, (Z.i 1)] w R fun t7 w =>
 oC 124 #[a0, t7] w R fun t8 w =>
 R (.returned t8) w
theorem F84.calls {R w a0} : F84 R w a0 → oX 84 #[a0] w R := Z.k [0,2]
def F85 (a0 : Value) : Prop :=
 oC 24 #[a0] w R fun t7 w =>
 oC 116 #[a0, t7] w R fun t11 w =>
 oE t11 0 w R fun t12 w =>
 oE t11 1 w R fun t13 w =>
 oA 173 w R fun t4 w =>
 oS 173 t4 t12 w R fun _ w =>
 gd t13 true (fun K => K a0 w) w fun t16 w =>
 gd t13 true (fun K => oF 173 t4 0 w R K) w fun t17 w =>
 gd t13 true (fun K => oL 3 t17 w R K) w fun t18 w =>
 gd t13 true (fun K => oC 131 #[t16, t18] w R K) w fun t19 w =>
 pick t13 t19 (.bool false) w fun t20 w =>
 gd t20 true (fun K => K t7 w) w fun t22 w =>
 gd t20 true (fun K => oF 173 t4 0 w R K) w fun t23 w =>
 gd t20 true (fun K => oL 3 t23 w R K) w fun t24 w =>
 gd t20 true (fun K => oQ false .neq 3 t22 t24 w R K) w fun t25 w =>
 pick t20 t25 (.bool false) w fun t26 w =>
 gd t26 true (fun K => K t7 w) w fun t28 w =>
 gd t26 true (fun K => K a0 w) w fun t29 w =>
 gd t26 true (fun K => oF 173 t4 0 w R K) w fun t30 w =>
 gd t26 true (fun K => oL 3 t30 w R K) w fun t31 w =>
 gd t26 true (fun K => oC 125 #[t29, t31, (Z.i 1)] w R K) w fun t32 w =>
 gd t26 true (fun K => oQ false .neq 3 t28 t32 w R K) w fun t33 w =>
 pick t26 t33 (.bool false) w fun t34 w =>
 cond t34 (oG 173 t4 0 3 w R fun t38 w =>
 oC 125 #[a0, t38, (Z.i 1)] w R fun t39 w =>
 oC 124 #[a0, t39] w R fun t40 w =>
 R (.returned t40) w)
 (oC 125 #[a0, t7, (Z.i (-2))] w R fun t45 w =>
 oC 130 #[a0, t45, (Z.i (-1))] w R fun t46 w =>
 oC 124 #[a0, t46] w R fun t47 w =>
 R (.returned t47) w)
theorem F85.calls {R w a0} : F85 R w a0 → oX 85 #[a0] w R := Z.k [0,2,3,4,5,34]
def F86 (a0 : Value) : Prop :=
 oC 112 #[a0] w R fun t11 w =>
 oC 24 #[a0] w R fun t13 w =>
 oC 132 #[t11, t13] w R fun t14 w =>
 oE t14 0 w R fun t15 w =>
 oE t14 1 w R fun t16 w =>
 oE t14 2 w R fun t17 w =>
 oP .add 3 t15 (Z.i 1) w R fun t20 w =>
 oC 112 #[a0] w R fun t22 w =>
 aX ((Instr.field 32 t22 1).run Tryz.prog w) R fun t23 w =>
 oP .mul 3 t20 t23 w R fun t24 w =>
 oC 125 #[a0, (Z.i 0), t24] w R fun t25 w =>
 join (upd (upd (upd (ini [a0]) 2 (Z.i 0)) 3 t15) 6 t25) (fun j1 =>
 oC 30 #[a0] w R fun t27 w =>
 loop (upd (upd (upd (upd (upd (ini [a0]) 2 (Z.i 0)) 3 t15) 6 t25) 27 t27) 28 (Z.i 0)) w fun e2 g2 w j2 =>
 oP .lss 3 (g2 28) t27 w R fun t29 w =>
 cond t29 (oC 125 #[a0, t25, (g2 28)] w R fun t34 w =>
 oC 117 #[a0, t34] w R fun t37 w =>
 cond t37 (oC 124 #[a0, t34] w R fun t40 w =>
 R (.returned t40) w)
 (oP .add 3 (g2 28) (Z.i 1) w R fun t41 w =>
 j2 (upd (upd (upd (upd (upd (mix [29,7,8,37,2,28] g2 e2) 29 t29) 7 (g2 28)) 8 t34) 37 t37) 28 t41) w))
 (j1 (upd (mix [29,7,8,37,2,28] g2 e2) 29 t29) w)) fun e1 g1 w =>
 oC 124 #[a0, (Z.i 0)] w R fun t43 w =>
 R (.returned t43) w
theorem F86.calls {R w a0} : F86 R w a0 → oX 86 #[a0] w R := Z.k [0,2,3,6,7,8,27,28,29,37]
def F88 (a0 a1 a2 : Value) : Prop :=
 oC 112 #[a0] w R fun t9 w =>
 oA 32 w R fun t7 w =>
 oS 32 t7 t9 w R fun _ w =>
 drawn w fun T w =>
 aQ T w (fun w K => oC 24 #[a0] w aO K) fun t14 =>
 qG T w 32 t7 0 3 fun t17 =>
 aQ T w (fun w K => oP .rem 3 a1 t17 w aO K) fun t18 =>
 qG T w 32 t7 1 3 fun t20 =>
 aQ T w (fun w K => oP .mul 3 t18 t20 w aO K) fun t21 =>
 aQ T w (fun w K => oC 125 #[a0, t14, t21] w aO K) fun t22 =>
 aQ T w (fun w K => oC 125 #[a0, t22, a2] w aO K) fun t24 =>
 ext w fun w =>
 oC 124 #[a0, t24] w R fun t25 w =>
 ext w fun w =>
 R (.returned t25) w
theorem F88.calls {R w a0 a1 a2} : F88 R w a0 a1 a2 → oX 88 #[a0, a1, a2] w R := Z.k [0,1,2,6,7]
def F89 (a0 : Value) : Prop :=
 oC 24 #[a0] w R fun t8 w =>
 oC 134 #[a0, t8] w R fun t9 w =>
 oE t9 0 w R fun t10 w =>
 oE t9 1 w R fun t11 w =>
 oU t11 w R fun t13 w =>
 cond t13 (R (.returned (Z.i 41)) w)
 (R (.returned (Z.i 0)) w)
theorem F89.calls {R w a0} : F89 R w a0 → oX 89 #[a0] w R := Z.k [0,2,4,13]
def WQ (a0 : Value) : Prop :=
 aX ((Instr.box 33 a0).run Tryz.prog w) (gJ R) fun t1 w =>
 join (upd (upd (upd (ini [a0]) 1 t1) 2 (Z.i 0)) 3 (Z.i 0)) (fun j1 =>
 aX ((Instr.loadAt 33 t1).run Tryz.prog w) (gJ R) fun t7 w =>
 kU Tryz.prog 30 #[t7] w (gJ R) fun t8 w =>
 loop (upd (upd (upd (upd (upd (ini [a0]) 1 t1) 2 (Z.i 0)) 3 (Z.i 0)) 8 t8) 9 (Z.i 0)) w fun e2 g2 w j2 =>
 aX ((binOp .lss 3 (g2 9) t8).run Tryz.prog w) (gJ R) fun t10 w =>
 cond t10 (join (upd (mix [10,4,14,3,9] g2 e2) 10 t10) (fun j3 =>
 aX ((Instr.loadAt 33 t1).run Tryz.prog w) (gJ R) fun t12 w =>
 kU Tryz.prog 117 #[t12, (g2 9)] w (gJ R) fun t14 w =>
 cond t14 (aX ((Instr.loadAt 33 t1).run Tryz.prog w) (gJ R) fun t15 w =>
 aX ((Instr.build 37 #[]).run Tryz.prog w) (gJ R) fun t17 w =>
 kU Tryz.prog 14 #[t15, (g2 9), t17] w (gJ R) fun t18 w =>
 aX ((binOp .add 3 (g2 3) (Z.i 1)).run Tryz.prog w) (gJ R) fun t20 w =>
 j3 (upd (upd (upd (upd (mix [10,4,14,3,9] g2 e2) 10 t10) 4 (g2 9)) 14 t14) 3 t20) w)
 (j3 (upd (upd (upd (mix [10,4,14,3,9] g2 e2) 10 t10) 4 (g2 9)) 14 t14) w)) fun e3 g3 w =>
 aX ((binOp .add 3 (g2 9) (Z.i 1)).run Tryz.prog w) (gJ R) fun t21 w =>
 j2 (upd (mix [4,14,3] g3 e3) 9 t21) w)
 (j1 (upd (mix [10,4,14,3,9] g2 e2) 10 t10) w)) fun e1 g1 w =>
 join (mix [8,10,4,14,3,9] g1 e1) (fun j4 =>
 aX ((Instr.loadAt 33 t1).run Tryz.prog w) (gJ R) fun t22 w =>
 kU Tryz.prog 135 #[t22] w (gJ R) fun t23 w =>
 vM Tryz.prog t23 1 w (fun l5 xs5 w mid5 fin5 =>
 oA 173 w aO fun t5 w =>
 oS 173 t5 (xs5.getD 0 undef) w aO fun _ w =>
 mid5 (fun w => oF 173 t5 2 w aO fun t25 w =>
 oL 5 t25 w aO fun t26 w =>
 oC 136 #[t26] w aO fun t27 w =>
 cond t27 (fin5 .normal w)
 (oL 33 t1 w aO fun t28 w =>
 oF 173 t5 0 w aO fun t29 w =>
 oL 3 t29 w aO fun t30 w =>
 oC 31 #[t28, t30] w aO fun t31 w =>
 oA 37 w aO fun t6 w =>
 oS 37 t6 t31 w aO fun _ w =>
 oF 37 t6 0 w aO fun t32 w =>
 oL 5 t32 w aO fun t33 w =>
 oC 137 #[t33, (.bool false)] w aO fun t34 w =>
 oF 37 t6 0 w aO fun t35 w =>
 oS 5 t35 t34 w aO fun _ w =>
 oL 33 t1 w aO fun t36 w =>
 oF 173 t5 0 w aO fun t37 w =>
 oL 3 t37 w aO fun t38 w =>
 oL 37 t6 w aO fun t39 w =>
 oC 14 #[t36, t38, t39] w aO fun t40 w =>
 fin5 .normal w)) w)
 (fun D w => j4 (upd (upd (mix [8,10,4,14,3,9] g1 e1) 23 t23) 1000000 (mkV D undef)) w)
 []) fun e4 g4 w =>
 drawn w fun T w =>
 aQ T w (fun w K => oL 33 t1 w aO K) fun t41 =>
 aQ T w (fun w K => oL 33 t1 w aO K) fun t42 =>
 aQ T w (fun w K => oC 133 #[t42] w aO K) fun t43 =>
 ext w fun w =>
 kU Tryz.prog 36 #[t41, t43] w (gJ R) fun t44 w =>
 ext w fun w =>
 lS (xM (g4 1000000)) w fun w => R (.returned (g1 3)) w
theorem WQ.calls {R w a0} : WQ R w a0 → oX 90 #[a0] w R := Z.k [0,1,2,3,4,5,6,8,9,10,14,23,24,27]
def F91 (a0 : Value) : Prop :=
 oC 24 #[a0] w R fun t7 w =>
 oC 117 #[a0, t7] w R fun t10 w =>
 oU t10 w R fun t11 w =>
 cond t11 (R (.returned (Z.i 41)) w)
 (oC 120 #[a0, t7] w R fun t14 w =>
 join (upd (upd (upd (upd (ini [a0]) 2 (Z.i 0)) 3 t7) 11 t11) 4 t14) (fun j1 =>
 oN 176 t14 w R fun t16 w =>
 oP .sub 3 t16 (Z.i 1) w R fun t17 w =>
 loop (upd (upd (upd (upd (upd (upd (ini [a0]) 2 (Z.i 0)) 3 t7) 11 t11) 4 t14) 17 t17) 18 (Z.i 0)) w fun e2 g2 w j2 =>
 oP .lss 3 (g2 18) t17 w R fun t19 w =>
 cond t19 (drawn w fun T w =>
 aQ T w (fun w K => oI 176 t14 (g2 18) w aO K) fun t24 =>
 aQ T w (fun w K => oL 3 t24 w aO K) fun t25 =>
 aQ T w (fun w K => oP .add 3 (g2 18) (Z.i 1) w aO K) fun t29 =>
 aQ T w (fun w K => oI 176 t14 t29 w aO K) fun t30 =>
 aQ T w (fun w K => oL 3 t30 w aO K) fun t31 =>
 aQ T w (fun w K => oC 31 #[a0, t31] w aO K) fun t32 =>
 ext w fun w =>
 oC 14 #[a0, t25, t32] w R fun t33 w =>
 ext w fun w =>
 oP .add 3 (g2 18) (Z.i 1) w R fun t34 w =>
 j2 (upd (upd (upd (mix [19,5,18] g2 e2) 19 t19) 5 (g2 18)) 18 t34) w)
 (j1 (upd (mix [19,5,18] g2 e2) 19 t19) w)) fun e1 g1 w =>
 oN 176 t14 w R fun t38 w =>
 oP .sub 3 t38 (Z.i 1) w R fun t39 w =>
 oI 176 t14 t39 w R fun t40 w =>
 oL 3 t40 w R fun t41 w =>
 oD 37 #[] w R fun t42 w =>
 oC 14 #[a0, t41, t42] w R fun t43 w =>
 oC 73 #[a0, t7] w R fun t46 w =>
 R (.returned (Z.i 0)) w)
theorem F91.calls {R w a0} : F91 R w a0 → oX 91 #[a0] w R := Z.k [0,2,3,4,5,11,17,18,19]
def F92 (a0 a1 : Value) : Prop :=
 oC 24 #[a0] w R fun t8 w =>
 oC 37 #[a0, (Z.u 28), a1] w R fun t11 w =>
 oQ true .neq 25 t11 (Z.i 0) w R fun t13 w =>
 cond t13 (R (.returned t11) w)
 (oC 36 #[a0, t8] w R fun t17 w =>
 oC 84 #[a0] w R fun t19 w =>
 R (.returned (Z.i 0)) w)
theorem F92.calls {R w a0 a1} : F92 R w a0 a1 → oX 92 #[a0, a1] w R := Z.k [0,1,4,5,6,13]
def F93 (a0 a1 : Value) : Prop :=
 oC 37 #[a0, (Z.u 30), a1] w R fun t7 w =>
 R (.returned t7) w
theorem F93.calls {R w a0 a1} : F93 R w a0 a1 → oX 93 #[a0, a1] w R := Z.k [0,1,4]
def Yc (a0 : Value) : Prop :=
 oA 158 w R fun t2 w =>
 join (upd (upd (ini [a0]) 2 t2) 3 (.bool false)) (fun j1 =>
 oC 145 #[] w R fun t6 w =>
 oN 200 t6 w R fun t7 w =>
 loop (upd (upd (upd (upd (upd (ini [a0]) 2 t2) 3 (.bool false)) 6 t6) 7 t7) 8 (Z.i 0)) w fun e2 g2 w j2 =>
 oP .lss 3 (g2 8) t7 w R fun t9 w =>
 cond t9 (oI 200 t6 (g2 8) w R fun t10 w =>
 oL 158 t10 w R fun t11 w =>
 oA 158 w R fun t5 w =>
 oS 158 t5 t11 w R fun _ w =>
 oG 158 t5 0 5 w R fun t13 w =>
 oQ false .eql 5 t13 a0 w R fun t15 w =>
 gd t15 false (fun K => oF 158 t5 1 w R K) w fun t17 w =>
 gd t15 false (fun K => oL 5 t17 w R K) w fun t18 w =>
 gd t15 false (fun K => K a0 w) w fun t19 w =>
 gd t15 false (fun K => oQ false .eql 5 t18 t19 w R K) w fun t20 w =>
 pick t15 (.bool true) t20 w fun t21 w =>
 cond t21 (oL 158 t5 w R fun t22 w =>
 oS 158 t2 t22 w R fun _ w =>
 jd ((Instr.loadAt 158 t2).run Tryz.prog w) w fun r0 =>
 R (.returned (.tuple #[r0, (.bool true)])) w)
 (oP .add 3 (g2 8) (Z.i 1) w R fun t23 w =>
 j2 (upd (upd (upd (upd (mix [9,5,21,3,8] g2 e2) 9 t9) 5 t5) 21 t21) 8 t23) w))
 (j1 (upd (mix [9,5,21,3,8] g2 e2) 9 t9) w)) fun e1 g1 w =>
 oD 158 #[] w R fun t24 w =>
 oS 158 t2 t24 w R fun _ w =>
 jd ((Instr.loadAt 158 t2).run Tryz.prog w) w fun r0 =>
 R (.returned (.tuple #[r0, (.bool false)])) w
theorem Yc.calls {R w a0} : Yc R w a0 → oX 102 #[a0] w R := Z.k [0,2,3,5,6,7,8,9,21]
def X5 (a0 : Value) : Prop :=
 oQ true .eql 5 a0 (Z.u 241) w R fun t4 w =>
 gd t4 false (fun K => K a0 w) w fun t6 w =>
 gd t4 false (fun K => oQ true .eql 5 t6 (Z.u 245) w R K) w fun t7 w =>
 pick t4 (.bool true) t7 w fun t8 w =>
 gd t8 false (fun K => K a0 w) w fun t10 w =>
 gd t8 false (fun K => oQ true .eql 5 t10 (Z.u 126) w R K) w fun t11 w =>
 pick t8 (.bool true) t11 w fun t12 w =>
 R (.returned t12) w
theorem X5.calls {R w a0} : X5 R w a0 → oX 103 #[a0] w R := Z.k [0,2]
def Ym (a0 : Value) : Prop :=
 join (upd (upd (upd (ini [a0]) 2 (.slice none 0 0)) 3 (Z.i 0)) 4 (.slice none 0 0)) (fun j1 =>
 loop (upd (upd (upd (ini [a0]) 2 (.slice none 0 0)) 3 (Z.i 0)) 4 (.slice none 0 0)) w fun e2 g2 w j2 =>
 oN 24 (g2 0) w R fun t11 w =>
 oP .gtr 3 t11 (Z.i 0) w R fun t12 w =>
 cond t12 (oC 148 #[(g2 0)] w R fun t15 w =>
 oE t15 0 w R fun t16 w =>
 oE t15 1 w R fun t17 w =>
 oE t15 2 w R fun t18 w =>
 oQ true .neq 25 t18 (Z.i 0) w R fun t20 w =>
 cond t20 (R (.returned (.tuple #[(g2 4), t18])) w)
 (oC 149 #[t16] w R fun t25 w =>
 oE t25 0 w R fun t26 w =>
 oE t25 1 w R fun t27 w =>
 oA 214 w R fun t8 w =>
 oS 214 t8 t26 w R fun _ w =>
 oU t27 w R fun t29 w =>
 cond t29 (R (.returned (.tuple #[(g2 4), (Z.i 34)])) w)
 (oL 214 t8 w R fun t32 w =>
 aX ((Instr.buildSlice 122 1 #[(0, t32)]).run Tryz.prog w) R fun t33 w =>
 aX ((Builtin.append_ #[122, 122] 122 #[(g2 4), t33]).run Tryz.prog w) R fun t34 w =>
 j2 (upd (upd (upd (upd (upd (upd (upd (upd (upd (upd (mix [12,5,6,7,20,8,9,29,2,3,4,0] g2 e2) 12 t12) 5 t16) 6 t17) 7 t18) 20 t20) 8 t8) 9 t27) 29 t29) 4 t34) 0 t17) w)))
 (j1 (upd (mix [12,5,6,7,20,8,9,29,2,3,4,0] g2 e2) 12 t12) w)) fun e1 g1 w =>
 R (.returned (.tuple #[(g1 4), (Z.i 0)])) w
theorem Ym.calls {R w a0} : Ym R w a0 → oX 105 #[a0] w R := Z.k [0,2,3,4,5,6,7,8,9,12,20,29]
def X9 (a0 : Value) : Prop :=
 oP .and 5 a0 (Z.u 1) w R fun t4 w =>
 oQ true .neq 5 t4 (Z.u 0) w R fun t5 w =>
 R (.returned t5) w
theorem X9.calls {R w a0} : X9 R w a0 → oX 106 #[a0] w R := Z.k [0,2]
def Zk (a0 : Value) : Prop :=
 aX ((Instr.box 33 a0).run Tryz.prog w) (gJ R) fun t1 w =>
 aX ((Instr.alloc 3 true (.tuple #[])).run Tryz.prog w) (gJ R) fun t3 w =>
 sQ ((Instr.storeAt 3 t3 (Z.i 0)).run Tryz.prog w) (gJ R) fun _ w =>
 join (upd (upd (upd (ini [a0]) 1 t1) 2 (Z.i 0)) 3 t3) (fun j1 =>
 aX ((Instr.loadAt 33 t1).run Tryz.prog w) (gJ R) fun t5 w =>
 kU Tryz.prog 135 #[t5] w (gJ R) fun t6 w =>
 vM Tryz.prog t6 1 w (fun l2 xs2 w mid2 fin2 =>
 oA 173 w aO fun t4 w =>
 oS 173 t4 (xs2.getD 0 undef) w aO fun _ w =>
 mid2 (fun w => oF 173 t4 2 w aO fun t8 w =>
 oL 5 t8 w aO fun t9 w =>
 oC 140 #[t9] w aO fun t10 w =>
 cond t10 (oL 3 t3 w aO fun t11 w =>
 oP .add 3 t11 (Z.i 1) w aO fun t12 w =>
 oS 3 t3 t12 w aO fun _ w =>
 oL 33 t1 w aO fun t13 w =>
 oF 173 t4 0 w aO fun t14 w =>
 oL 3 t14 w aO fun t15 w =>
 oC 123 #[t13, t15, (.bool false)] w aO fun t16 w =>
 fin2 .normal w)
 (fin2 .normal w)) w)
 (fun D w => j1 (upd (upd (upd (upd (upd (ini [a0]) 1 t1) 2 (Z.i 0)) 3 t3) 6 t6) 1000000 (mkV D undef)) w)
 []) fun e1 g1 w =>
 aX ((Instr.loadAt 3 t3).run Tryz.prog w) (gJ R) fun t17 w =>
 lS (xM (g1 1000000)) w fun w => R (.returned t17) w
theorem Zk.calls {R w a0} : Zk R w a0 → oX 107 #[a0] w R := Z.k [0,1,2,3,4,6,7,10]
def Zl (a0 a1 a2 : Value) : Prop :=
 oB 124 a1 w R fun t4 w =>
 oA 66 w R fun t6 w =>
 drawn w fun T w =>
 aQ Ext w (fun w K => bW a0 w K) fun t12 =>
 qG Ext w 89 t12 2 33 fun t14 =>
 qG Ext w 124 t4 2 121 fun t16 =>
 ext w fun w =>
 yj T w (fun w K => oC 150 #[t14, t16, a2] w R K) fun t18 w =>
 aQ T w (fun w K => oE t18 0 w aO K) fun t19 =>
 aQ T w (fun w K => oE t18 1 w aO K) fun t20 =>
 aQ T w (fun w K => oE t18 2 w aO K) fun t21 =>
 ext w fun w =>
 join (upd (upd (upd (ini [a0, a1, a2]) 4 t4) 6 t6) 9 t21) (fun j1 =>
 oQ true .eql 25 t21 (Z.i 0) w R fun t23 w =>
 cond t23 (oG 124 t4 3 25 w R fun t25 w =>
 j1 (upd (upd (upd (upd (upd (ini [a0, a1, a2]) 4 t4) 6 t6) 9 t21) 23 t23) 9 t25) w)
 (j1 (upd (upd (upd (upd (ini [a0, a1, a2]) 4 t4) 6 t6) 9 t21) 23 t23) w)) fun e1 g1 w =>
 oQ true .neq 25 (g1 9) (Z.i 0) w R fun t27 w =>
 cond t27 (oD 66 #[(3, (g1 9))] w R fun t29 w =>
 oS 66 t6 t29 w R fun _ w =>
 jd ((Instr.loadAt 66 t6).run Tryz.prog w) w fun r0 =>
 R (.returned r0) w)
 (drawn w fun T w =>
 qG T w 124 t4 1 5 fun t31 =>
 aQ T w (fun w K => oC 151 #[t31] w aO K) fun t32 =>
 qG T w 124 t4 1 5 fun t34 =>
 aQ T w (fun w K => oC 152 #[t34] w aO K) fun t35 =>
 aQ T w (fun w K => oD 66 #[(1, t32), (2, t35)] w aO K) fun t36 =>
 ext w fun w =>
 oS 66 t6 t36 w R fun _ w =>
 ext w fun w =>
 jd ((Instr.loadAt 66 t6).run Tryz.prog w) w fun r0 =>
 R (.returned r0) w)
theorem Zl.calls {R w a0 a1 a2} : Zl R w a0 a1 a2 → oX 108 #[a0, a1, a2] w R := Z.k [0,1,2,4,6,9,23,27]
def Ou (a0 a1 a2 : Value) : Prop :=
 oB 124 a1 w R fun t4 w =>
 oA 66 w R fun t6 w =>
 oC 82 #[a0, a2] w R fun t9 w =>
 oL 124 t4 w R fun t11 w =>
 oC 108 #[a0, t11, (Z.i 0)] w R fun t12 w =>
 oS 66 t6 t12 w R fun _ w =>
 jd ((Instr.loadAt 66 t6).run Tryz.prog w) w fun r0 =>
 R (.returned r0) w
theorem Ou.calls {R w a0 a1 a2} : Ou R w a0 a1 a2 → oX 109 #[a0, a1, a2] w R := Z.k [0,1,2,4,6]
def Zm (a0 a1 : Value) : Prop :=
 oB 124 a1 w R fun t3 w =>
 oA 66 w R fun t4 w =>
 oA 66 w R fun t5 w =>
 join (upd (upd (upd (ini [a0, a1]) 3 t3) 4 t4) 5 t5) (fun j1 =>
 oG 124 t3 4 122 w R fun t10 w =>
 oN 122 t10 w R fun t11 w =>
 loop (upd (upd (upd (upd (upd (upd (ini [a0, a1]) 3 t3) 4 t4) 5 t5) 10 t10) 11 t11) 12 (Z.i 0)) w fun e2 g2 w j2 =>
 oP .lss 3 (g2 12) t11 w R fun t13 w =>
 cond t13 (oI 122 t10 (g2 12) w R fun t14 w =>
 oL 214 t14 w R fun t15 w =>
 oA 214 w R fun t7 w =>
 oS 214 t7 t15 w R fun _ w =>
 oL 214 t7 w R fun t17 w =>
 oC 153 #[a0, t17] w R fun t18 w =>
 oA 66 w R fun t8 w =>
 oS 66 t8 t18 w R fun _ w =>
 oG 66 t8 3 25 w R fun t20 w =>
 oQ true .neq 25 t20 (Z.i 0) w R fun t21 w =>
 cond t21 (oG 66 t8 3 25 w R fun t23 w =>
 oD 66 #[(3, t23)] w R fun t24 w =>
 oS 66 t4 t24 w R fun _ w =>
 jd ((Instr.loadAt 66 t4).run Tryz.prog w) w fun r0 =>
 R (.returned r0) w)
 (join (upd (upd (upd (upd (mix [13,7,8,21,27,12] g2 e2) 13 t13) 7 t7) 8 t8) 21 t21) (fun j3 =>
 oG 66 t5 0 5 w R fun t26 w =>
 oQ true .eql 5 t26 (Z.u 0) w R fun t27 w =>
 cond t27 (oG 66 t8 0 5 w R fun t29 w =>
 oF 66 t5 0 w R fun t30 w =>
 oS 5 t30 t29 w R fun _ w =>
 j3 (upd (upd (upd (upd (upd (mix [13,7,8,21,27,12] g2 e2) 13 t13) 7 t7) 8 t8) 21 t21) 27 t27) w)
 (j3 (upd (upd (upd (upd (upd (mix [13,7,8,21,27,12] g2 e2) 13 t13) 7 t7) 8 t8) 21 t21) 27 t27) w)) fun e3 g3 w =>
 drawn w fun T w =>
 qG Ext w 66 t5 1 4 fun t32 =>
 aQ Ext w (fun w K => gd t32 false (fun K => oF 66 t8 1 w aO K) w K) fun t34 =>
 aQ Ext w (fun w K => gd t32 false (fun K => oL 4 t34 w aO K) w K) fun t35 =>
 aQ Ext w (fun w K => pick t32 (.bool true) t35 w K) fun t36 =>
 qG Ext w 66 t5 2 4 fun t38 =>
 aQ T w (fun w K => gd t38 false (fun K => oF 66 t8 2 w aO K) w K) fun t40 =>
 aQ T w (fun w K => gd t38 false (fun K => oL 4 t40 w aO K) w K) fun t41 =>
 aQ T w (fun w K => pick t38 (.bool true) t41 w K) fun t42 =>
 aQ Ext w (fun w K => oF 66 t5 1 w aO K) fun t43 =>
 ext w fun w =>
 yj T w (fun w K => oS 4 t43 t36 w R K) fun _ w =>
 aQ T w (fun w K => oF 66 t5 2 w aO K) fun t44 =>
 ext w fun w =>
 oS 4 t44 t42 w R fun _ w =>
 ext w fun w =>
 oP .add 3 (g2 12) (Z.i 1) w R fun t45 w =>
 j2 (upd (mix [27] g3 e3) 12 t45) w))
 (j1 (upd (mix [13,7,8,21,27,12] g2 e2) 13 t13) w)) fun e1 g1 w =>
 oG 124 t3 3 25 w R fun t47 w =>
 oQ true .neq 25 t47 (Z.i 0) w R fun t48 w =>
 cond t48 (oG 124 t3 3 25 w R fun t50 w =>
 oD 66 #[(3, t50)] w R fun t51 w =>
 oS 66 t4 t51 w R fun _ w =>
 jd ((Instr.loadAt 66 t4).run Tryz.prog w) w fun r0 =>
 R (.returned r0) w)
 (oL 66 t5 w R fun t52 w =>
 oS 66 t4 t52 w R fun _ w =>
 jd ((Instr.loadAt 66 t4).run Tryz.prog w) w fun r0 =>
 R (.returned r0) w)
theorem Zm.calls {R w a0 a1} : Zm R w a0 a1 → oX 110 #[a0, a1] w R := Z.k [0,1,3,4,5,7,8,10,11,12,13,21,27,48]
def YI (a0 : Value) : Prop :=
 oC 155 #[a0] w R fun t4 w =>
 gd t4 false (fun K => K a0 w) w fun t6 w =>
 gd t4 false (fun K => oQ true .eql 5 t6 (Z.u 75) w R K) w fun t7 w =>
 pick t4 (.bool true) t7 w fun t8 w =>
 gd t8 false (fun K => K a0 w) w fun t10 w =>
 gd t8 false (fun K => oQ true .eql 5 t10 (Z.u 96) w R K) w fun t11 w =>
 pick t8 (.bool true) t11 w fun t12 w =>
 gd t12 false (fun K => K a0 w) w fun t14 w =>
 gd t12 false (fun K => oQ true .eql 5 t14 (Z.u 28) w R K) w fun t15 w =>
 pick t12 (.bool true) t15 w fun t16 w =>
 R (.returned t16) w
theorem YI.calls {R w a0} : YI R w a0 → oX 119 #[a0] w R := Z.k [0,2]
def YJ (a0 a1 : Value) : Prop :=
 aX ((Instr.box 3 a1).run Tryz.prog w) (gJ R) fun t3 w =>
 aX ((Instr.alloc 176 true (.tuple #[])).run Tryz.prog w) (gJ R) fun t5 w =>
 aX ((Instr.loadAt 3 t3).run Tryz.prog w) (gJ R) fun t12 w =>
 kU Tryz.prog 116 #[a0, t12] w (gJ R) fun t13 w =>
 aX ((Instr.extract t13 0).run Tryz.prog w) (gJ R) fun t14 w =>
 aX ((Instr.extract t13 1).run Tryz.prog w) (gJ R) fun t15 w =>
 aX ((Instr.alloc 173 true (.tuple #[])).run Tryz.prog w) (gJ R) fun t6 w =>
 sQ ((Instr.storeAt 173 t6 t14).run Tryz.prog w) (gJ R) fun _ w =>
 join (upd (upd (upd (upd (upd (ini [a0, a1]) 3 t3) 4 (.slice none 0 0)) 5 t5) 6 t6) 7 t15) (fun j1 =>
 aX ((Op.unary .not t15).run Tryz.prog w) (gJ R) fun t17 w =>
 cond t17 (join (upd (upd (upd (upd (upd (upd (ini [a0, a1]) 3 t3) 4 (.slice none 0 0)) 5 t5) 6 t6) 7 t15) 17 t17) (fun j2 =>
 aX ((Instr.loadAt 3 t3).run Tryz.prog w) (gJ R) fun t18 w =>
 loop (upd (upd (upd (upd (upd (upd (upd (ini [a0, a1]) 3 t3) 4 (.slice none 0 0)) 5 t5) 6 t6) 7 t15) 17 t17) 8 t18) w fun e3 g3 w j3 =>
 kU Tryz.prog 30 #[a0] w (gJ R) fun t21 w =>
 aX ((binOp .lss 3 (g3 8) t21).run Tryz.prog w) (gJ R) fun t22 w =>
 cond t22 (aX ((Instr.loadAt 176 t5).run Tryz.prog w) (gJ R) fun t25 w =>
 aX ((Instr.buildSlice 176 1 #[(0, (g3 8))]).run Tryz.prog w) (gJ R) fun t27 w =>
 aX ((Builtin.append_ #[176, 176] 176 #[t25, t27]).run Tryz.prog w) (gJ R) fun t28 w =>
 sQ ((Instr.storeAt 176 t5 t28).run Tryz.prog w) (gJ R) fun _ w =>
 aX ((binOp .add 3 (g3 8) (Z.i 1)).run Tryz.prog w) (gJ R) fun t24 w =>
 j3 (upd (upd (mix [22,8] g3 e3) 22 t22) 8 t24) w)
 (j2 (upd (mix [22,8] g3 e3) 22 t22) w)) fun e2 g2 w =>
 aX ((Instr.loadAt 176 t5).run Tryz.prog w) (gJ R) fun t29 w =>
 lS (xM undef) w fun w => R (.returned t29) w)
 (j1 (upd (upd (upd (upd (upd (upd (ini [a0, a1]) 3 t3) 4 (.slice none 0 0)) 5 t5) 6 t6) 7 t15) 17 t17) w)) fun e1 g1 w =>
 join (mix [17,22,8,4] g1 e1) (fun j4 =>
 aX ((Instr.loadAt 173 t6).run Tryz.prog w) (gJ R) fun t31 w =>
 kU Tryz.prog 141 #[a0, t31] w (gJ R) fun t32 w =>
 vM Tryz.prog t32 1 w (fun l5 xs5 w mid5 fin5 =>
 mid5 (fun w => oL 3 t3 w aO fun t35 w =>
 oQ false .eql 3 (xs5.getD 0 undef) t35 w aO fun t36 w =>
 gd t36 false (fun K => oL 176 t5 w aO K) w fun t38 w =>
 gd t36 false (fun K => oN 176 t38 w aO K) w fun t39 w =>
 gd t36 false (fun K => oP .gtr 3 t39 (Z.i 0) w aO K) w fun t40 w =>
 pick t36 (.bool true) t40 w fun t41 w =>
 cond t41 (oL 176 t5 w aO fun t42 w =>
 aX ((Instr.buildSlice 176 1 #[(0, (xs5.getD 0 undef))]).run Tryz.prog w) aO fun t44 w =>
 aX ((Builtin.append_ #[176, 176] 176 #[t42, t44]).run Tryz.prog w) aO fun t45 w =>
 oS 176 t5 t45 w aO fun _ w =>
 fin5 .normal w)
 (fin5 .normal w)) w)
 (fun D w => j4 (upd (upd (mix [17,22,8,4] g1 e1) 32 t32) 1000000 (mkV D undef)) w)
 []) fun e4 g4 w =>
 aX ((Instr.loadAt 176 t5).run Tryz.prog w) (gJ R) fun t46 w =>
 lS (xM (g4 1000000)) w fun w => R (.returned t46) w
theorem YJ.calls {R w a0 a1} : YJ R w a0 a1 → oX 120 #[a0, a1] w R := Z.k [0,1,3,4,5,6,7,8,9,17,22,32,33,41]
def YO (a0 a1 : Value) : Prop :=
 join (upd (ini [a0, a1]) 4 (Z.i 0)) (fun j1 =>
 oN 176 a0 w R fun t7 w =>
 loop (upd (upd (upd (ini [a0, a1]) 4 (Z.i 0)) 7 t7) 8 (Z.i 0)) w fun e2 g2 w j2 =>
 oP .lss 3 (g2 8) t7 w R fun t9 w =>
 cond t9 (oI 176 a0 (g2 8) w R fun t14 w =>
 oL 3 t14 w R fun t15 w =>
 AY Tryz.prog a1 #[t15] w R fun t16 w =>
 cond t16 (R (.returned (g2 8)) w)
 (oP .add 3 (g2 8) (Z.i 1) w R fun t18 w =>
 j2 (upd (upd (upd (upd (mix [9,5,16,4,8] g2 e2) 9 t9) 5 (g2 8)) 16 t16) 8 t18) w))
 (j1 (upd (mix [9,5,16,4,8] g2 e2) 9 t9) w)) fun e1 g1 w =>
 R (.returned (Z.i (-1))) w
theorem YO.calls {R w a0 a1} : YO R w a0 a1 → oX 121 #[a0, a1] w R := Z.k [0,1,4,5,7,8,9,16]
def YN (a0 a1 : Value) : Prop :=
 oL 33 a1 w R fun t4 w =>
 oC 31 #[t4, a0] w R fun t6 w =>
 aX ((Instr.field 37 t6 0).run Tryz.prog w) R fun t7 w =>
 oQ true .eql 5 t7 (Z.u 0) w R fun t8 w =>
 gd t8 true (fun K => oL 33 a1 w R K) w fun t10 w =>
 gd t8 true (fun K => K a0 w) w fun t11 w =>
 gd t8 true (fun K => oC 31 #[t10, t11] w R K) w fun t12 w =>
 gd t8 true (fun K => aX ((Instr.field 37 t12 1).run Tryz.prog w) R K) w fun t13 w =>
 gd t8 true (fun K => oU t13 w R K) w fun t14 w =>
 pick t8 t14 (.bool false) w fun t15 w =>
 R (.returned t15) w
theorem YN.calls {R w a0 a1} : YN R w a0 a1 → oX 122 #[a0, a1] w R := Z.k [0,1,3]
def YG (a0 a1 a2 : Value) : Prop :=
 join (upd (ini [a0, a1, a2]) 6 (Z.i 0)) (fun j1 =>
 oC 30 #[a0] w R fun t10 w =>
 loop (upd (upd (upd (ini [a0, a1, a2]) 6 (Z.i 0)) 10 t10) 11 (Z.i 0)) w fun e2 g2 w j2 =>
 oP .lss 3 (g2 11) t10 w R fun t12 w =>
 cond t12 (oP .mul 3 (g2 11) a2 w R fun t18 w =>
 oC 125 #[a0, a1, t18] w R fun t19 w =>
 oC 131 #[a0, t19] w R fun t22 w =>
 cond t22 (oC 125 #[a0, t19, (Z.i 1)] w R fun t25 w =>
 R (.returned t25) w)
 (oP .add 3 (g2 11) (Z.i 1) w R fun t26 w =>
 j2 (upd (upd (upd (upd (upd (mix [12,7,8,22,6,11] g2 e2) 12 t12) 7 (g2 11)) 8 t19) 22 t22) 11 t26) w))
 (j1 (upd (mix [12,7,8,22,6,11] g2 e2) 12 t12) w)) fun e1 g1 w =>
 R (.returned (Z.i 0)) w
theorem YG.calls {R w a0 a1 a2} : YG R w a0 a1 a2 → oX 130 #[a0, a1, a2] w R := Z.k [0,1,2,6,7,8,10,11,12,22]
def YE (a0 a1 : Value) : Prop :=
 oC 116 #[a0, a1] w R fun t10 w =>
 oE t10 0 w R fun t11 w =>
 oE t10 1 w R fun t12 w =>
 oA 173 w R fun t5 w =>
 oS 173 t5 t11 w R fun _ w =>
 gd t12 true (fun K => oF 173 t5 0 w R K) w fun t15 w =>
 gd t12 true (fun K => oL 3 t15 w R K) w fun t16 w =>
 gd t12 true (fun K => K a1 w) w fun t17 w =>
 gd t12 true (fun K => oQ false .eql 3 t16 t17 w R K) w fun t18 w =>
 pick t12 t18 (.bool false) w fun t19 w =>
 gd t19 true (fun K => oF 173 t5 1 w R K) w fun t21 w =>
 gd t19 true (fun K => oL 3 t21 w R K) w fun t22 w =>
 gd t19 true (fun K => oP .gtr 3 t22 (Z.i 0) w R K) w fun t23 w =>
 pick t19 t23 (.bool false) w fun t24 w =>
 gd t24 true (fun K => oF 173 t5 2 w R K) w fun t26 w =>
 gd t24 true (fun K => oL 5 t26 w R K) w fun t27 w =>
 gd t24 true (fun K => oC 136 #[t27] w R K) w fun t28 w =>
 gd t24 true (fun K => oU t28 w R K) w fun t29 w =>
 pick t24 t29 (.bool false) w fun t30 w =>
 R (.returned t30) w
theorem YE.calls {R w a0 a1} : YE R w a0 a1 → oX 131 #[a0, a1] w R := Z.k [0,1,4,5,6]
def YC (a0 a1 : Value) : Prop :=
 oB 32 a0 w R fun t2 w =>
 oP .lss 3 a1 (Z.i 0) w R fun t8 w =>
 gd t8 false (fun K => K a1 w) w fun t10 w =>
 gd t8 false (fun K => oL 32 t2 w R K) w fun t11 w =>
 gd t8 false (fun K => oC 43 #[t11] w R K) w fun t12 w =>
 gd t8 false (fun K => oP .geq 3 t10 t12 w R K) w fun t13 w =>
 pick t8 (.bool true) t13 w fun t14 w =>
 cond t14 (R (.returned (.tuple #[(Z.i 0), (Z.i 0), (.bool false)])) w)
 (drawn w fun T w =>
 qG T w 32 t2 1 3 fun t17 =>
 aQ T w (fun w K => oP .quo 3 a1 t17 w aO K) fun t18 =>
 qG T w 32 t2 1 3 fun t21 =>
 aQ T w (fun w K => oP .rem 3 a1 t21 w aO K) fun t22 =>
 ext w fun w =>
 R (.returned (.tuple #[t18, t22, (.bool true)])) w)
theorem YC.calls {R w a0 a1} : YC R w a0 a1 → oX 132 #[a0, a1] w R := Z.k [0,1,2,4,5,6,14]
def YP (a0 a1 : Value) : Prop :=
 aX ((Instr.box 33 a0).run Tryz.prog w) (gJ R) fun t2 w =>
 aX ((Instr.box 3 a1).run Tryz.prog w) (gJ R) fun t3 w =>
 aX ((Instr.loadAt 33 t2).run Tryz.prog w) (gJ R) fun t11 w =>
 aX ((Instr.loadAt 3 t3).run Tryz.prog w) (gJ R) fun t12 w =>
 kU Tryz.prog 117 #[t11, t12] w (gJ R) fun t13 w =>
 aX ((Op.unary .not t13).run Tryz.prog w) (gJ R) fun t14 w =>
 cond t14 (lS (xM undef) w fun w => R (.returned (.tuple #[(Z.i 0), (.bool false)])) w)
 (aX ((Instr.loadAt 33 t2).run Tryz.prog w) (gJ R) fun t16 w =>
 aX ((Instr.loadAt 3 t3).run Tryz.prog w) (gJ R) fun t17 w =>
 kU Tryz.prog 116 #[t16, t17] w (gJ R) fun t18 w =>
 aX ((Instr.extract t18 0).run Tryz.prog w) (gJ R) fun t19 w =>
 aX ((Instr.extract t18 1).run Tryz.prog w) (gJ R) fun t20 w =>
 aX ((Instr.alloc 173 true (.tuple #[])).run Tryz.prog w) (gJ R) fun t6 w =>
 sQ ((Instr.storeAt 173 t6 t19).run Tryz.prog w) (gJ R) fun _ w =>
 aX ((Op.unary .not t20).run Tryz.prog w) (gJ R) fun t22 w =>
 cond t22 (drawn w fun T w =>
 aQ T w (fun w K => oL 33 t2 w aO K) fun t23 =>
 aQ T w (fun w K => oC 30 #[t23] w aO K) fun t24 =>
 aQ T w (fun w K => oL 3 t3 w aO K) fun t25 =>
 aQ T w (fun w K => oP .sub 3 t24 t25 w aO K) fun t26 =>
 ext w fun w =>
 aX ((Instr.loadAt 33 t2).run Tryz.prog w) (gJ R) fun t27 w =>
 aX ((Instr.loadAt 3 t3).run Tryz.prog w) (gJ R) fun t28 w =>
 aX ((Instr.build 37 #[]).run Tryz.prog w) (gJ R) fun t29 w =>
 kU Tryz.prog 157 #[t27, t28, (Z.i 0), t29] w (gJ R) fun t30 w =>
 lS (xM undef) w fun w => R (.returned (.tuple #[t26, (.bool true)])) w)
 (aX ((Instr.alloc 3 true (.tuple #[])).run Tryz.prog w) (gJ R) fun t9 w =>
 sQ ((Instr.storeAt 3 t9 (Z.i 0)).run Tryz.prog w) (gJ R) fun _ w =>
 join (upd (upd (upd (upd (upd (upd (upd (upd (upd (ini [a0, a1]) 2 t2) 3 t3) 4 (Z.i 0)) 5 (.bool false)) 14 t14) 6 t6) 7 t20) 22 t22) 9 t9) (fun j1 =>
 aX ((Instr.loadAt 33 t2).run Tryz.prog w) (gJ R) fun t32 w =>
 aX ((Instr.loadAt 173 t6).run Tryz.prog w) (gJ R) fun t33 w =>
 kU Tryz.prog 141 #[t32, t33] w (gJ R) fun t34 w =>
 vM Tryz.prog t34 1 w (fun l2 xs2 w mid2 fin2 =>
 mid2 (fun w => oL 3 t3 w aO fun t37 w =>
 oQ false .eql 3 (xs2.getD 0 undef) t37 w aO fun t38 w =>
 gd t38 false (fun K => oL 3 t9 w aO K) w fun t40 w =>
 gd t38 false (fun K => oP .gtr 3 t40 (Z.i 0) w aO K) w fun t41 w =>
 pick t38 (.bool true) t41 w fun t42 w =>
 cond t42 (oL 33 t2 w aO fun t43 w =>
 oD 37 #[] w aO fun t45 w =>
 oC 14 #[t43, (xs2.getD 0 undef), t45] w aO fun t46 w =>
 oL 3 t9 w aO fun t47 w =>
 oP .add 3 t47 (Z.i 1) w aO fun t48 w =>
 oS 3 t9 t48 w aO fun _ w =>
 fin2 .normal w)
 (fin2 .normal w)) w)
 (fun D w => j1 (upd (upd (upd (upd (upd (upd (upd (upd (upd (upd (upd (ini [a0, a1]) 2 t2) 3 t3) 4 (Z.i 0)) 5 (.bool false)) 14 t14) 6 t6) 7 t20) 22 t22) 9 t9) 34 t34) 1000000 (mkV D undef)) w)
 []) fun e1 g1 w =>
 drawn w fun T w =>
 aQ T w (fun w K => oL 3 t9 w aO K) fun t49 =>
 aQ Ext w (fun w K => oL 33 t2 w aO K) fun t50 =>
 aQ Ext w (fun w K => oL 3 t3 w aO K) fun t51 =>
 ext w fun w =>
 yj T w (fun w K => kU Tryz.prog 73 #[t50, t51] w (gJ R) K) fun t52 w =>
 ext w fun w =>
 lS (xM (g1 1000000)) w fun w => R (.returned (.tuple #[t49, t52])) w))
theorem YP.calls {R w a0 a1} : YP R w a0 a1 → oX 134 #[a0, a1] w R := Z.k [0,1,2,3,4,5,6,7,8,9,10,14,22,34,35,42]
def Zn (a0 : Value) : Prop :=
 oA 209 w R fun t2 w =>
 drawn w fun T w =>
 aQ T w (fun w K => bW a0 w K) fun t5 =>
 qG T w 204 t5 0 24 fun t7 =>
 aQ T w (fun w K => bW a0 w K) fun t9 =>
 qG T w 204 t9 1 3 fun t11 =>
 aQ T w (fun w K => oI 24 t7 t11 w aO K) fun t12 =>
 aQ T w (fun w K => oL 5 t12 w aO K) fun t13 =>
 aQ T w (fun w K => oC 115 #[t13] w aO K) fun t14 =>
 ext w fun w =>
 cond t14 (oC 162 #[a0] w R fun t16 w =>
 oS 209 t2 t16 w R fun _ w =>
 jd ((Instr.loadAt 209 t2).run Tryz.prog w) w fun r0 =>
 R (.returned r0) w)
 (oC 163 #[a0] w R fun t18 w =>
 join (upd (upd (upd (upd (ini [a0]) 2 t2) 14 t14) 3 t18) 19 t18) (fun j1 =>
 oQ true .eql 5 t18 (Z.u 17) w R fun t21 w =>
 cond t21 (j1 (upd (upd (upd (upd (upd (ini [a0]) 2 t2) 14 t14) 3 t18) 19 t18) 20 t21) w)
 (oQ true .eql 5 t18 (Z.u 18) w R fun t22 w =>
 j1 (upd (upd (upd (upd (upd (upd (ini [a0]) 2 t2) 14 t14) 3 t18) 19 t18) 20 t21) 20 t22) w)) fun e1 g1 w =>
 cond (g1 20) (oC 164 #[a0] w R fun t25 w =>
 oD 209 #[(0, t18), (1, t25)] w R fun t26 w =>
 oS 209 t2 t26 w R fun _ w =>
 jd ((Instr.loadAt 209 t2).run Tryz.prog w) w fun r0 =>
 R (.returned r0) w)
 (oQ true .eql 5 t18 (Z.u 29) w R fun t28 w =>
 cond t28 (oC 163 #[a0] w R fun t31 w =>
 oP .and 5 t31 (Z.u 63) w R fun t32 w =>
 oD 209 #[(0, t18), (2, t32)] w R fun t33 w =>
 oS 209 t2 t33 w R fun _ w =>
 jd ((Instr.loadAt 209 t2).run Tryz.prog w) w fun r0 =>
 R (.returned r0) w)
 (join (upd (mix [20] g1 e1) 27 t28) (fun j2 =>
 oQ true .eql 5 t18 (Z.u 41) w R fun t35 w =>
 cond t35 (j2 (upd (upd (mix [20] g1 e1) 27 t28) 34 t35) w)
 (oQ true .eql 5 t18 (Z.u 44) w R fun t36 w =>
 j2 (upd (upd (upd (mix [20] g1 e1) 27 t28) 34 t35) 34 t36) w)) fun e2 g2 w =>
 cond (g2 34) (oC 163 #[a0] w R fun t41 w =>
 aX ((convert 5 3 t41).run Tryz.prog w) R fun t42 w =>
 oC 165 #[a0, t18, t42] w R fun t43 w =>
 oD 209 #[(0, t18), (4, t43)] w R fun t44 w =>
 oS 209 t2 t44 w R fun _ w =>
 jd ((Instr.loadAt 209 t2).run Tryz.prog w) w fun r0 =>
 R (.returned r0) w)
 (oQ true .eql 5 t18 (Z.u 40) w R fun t46 w =>
 cond t46 (oC 165 #[a0, t18, (Z.i 1)] w R fun t50 w =>
 oD 209 #[(0, t18), (4, t50)] w R fun t51 w =>
 oS 209 t2 t51 w R fun _ w =>
 jd ((Instr.loadAt 209 t2).run Tryz.prog w) w fun r0 =>
 R (.returned r0) w)
 (join (upd (mix [34] g2 e2) 45 t46) (fun j3 =>
 oQ true .eql 5 t18 (Z.u 19) w R fun t53 w =>
 cond t53 (j3 (upd (upd (mix [34] g2 e2) 45 t46) 52 t53) w)
 (oQ true .eql 5 t18 (Z.u 5) w R fun t54 w =>
 j3 (upd (upd (upd (mix [34] g2 e2) 45 t46) 52 t53) 52 t54) w)) fun e3 g3 w =>
 cond (g3 52) (oD 209 #[(0, t18)] w R fun t56 w =>
 oS 209 t2 t56 w R fun _ w =>
 jd ((Instr.loadAt 209 t2).run Tryz.prog w) w fun r0 =>
 R (.returned r0) w)
 (oQ true .eql 5 t18 (Z.u 60) w R fun t58 w =>
 cond t58 (oC 166 #[a0] w R fun t60 w =>
 oS 209 t2 t60 w R fun _ w =>
 jd ((Instr.loadAt 209 t2).run Tryz.prog w) w fun r0 =>
 R (.returned r0) w)
 (oQ true .eql 5 t18 (Z.u 8) w R fun t62 w =>
 cond t62 (oC 167 #[a0] w R fun t65 w =>
 oD 209 #[(0, t18), (2, t65)] w R fun t66 w =>
 oS 209 t2 t66 w R fun _ w =>
 jd ((Instr.loadAt 209 t2).run Tryz.prog w) w fun r0 =>
 R (.returned r0) w)
 (oD 206 #[(0, (Z.i 31))] w R fun t67 w =>
 aX ((Instr.makeInterface 206 t67).run Tryz.prog w) R fun t68 w =>
 aX ((Instr.panic t68).run Tryz.prog w) R fun _ w =>
 jd ((Instr.loadAt 209 t2).run Tryz.prog w) w fun r0 =>
 R (.returned r0) w))))))))
theorem Zn.calls {R w a0} : Zn R w a0 → oX 147 #[a0] w R := Z.k [0,2,3,14,19,20,27,34,45,52,57,61]
def Ye (a0 : Value) : Prop :=
 oN 24 a0 w R fun t7 w =>
 oP .lss 3 t7 (Z.i 2) w R fun t8 w =>
 cond t8 (R (.returned (.tuple #[(.slice none 0 0), (.slice none 0 0), (Z.i 34)])) w)
 (drawn w fun T w =>
 aQ T w (fun w K => oI 24 a0 (Z.i 0) w aO K) fun t10 =>
 aQ T w (fun w K => oL 5 t10 w aO K) fun t11 =>
 aQ T w (fun w K => aX ((convert 5 3 t11).run Tryz.prog w) aO K) fun t12 =>
 aQ T w (fun w K => oP .shl 3 t12 (.int .u64 8) w aO K) fun t13 =>
 aQ T w (fun w K => oI 24 a0 (Z.i 1) w aO K) fun t15 =>
 aQ T w (fun w K => oL 5 t15 w aO K) fun t16 =>
 aQ T w (fun w K => aX ((convert 5 3 t16).run Tryz.prog w) aO K) fun t17 =>
 aQ T w (fun w K => oP .or 3 t13 t17 w aO K) fun t18 =>
 ext w fun w =>
 join (upd (upd (upd (upd (upd (ini [a0]) 2 (.slice none 0 0)) 3 (.slice none 0 0)) 4 (Z.i 0)) 8 t8) 5 t18) (fun j1 =>
 oQ true .eql 3 t18 (Z.i 0) w R fun t20 w =>
 cond t20 (oN 24 a0 w R fun t22 w =>
 j1 (upd (upd (upd (upd (upd (upd (upd (ini [a0]) 2 (.slice none 0 0)) 3 (.slice none 0 0)) 4 (Z.i 0)) 8 t8) 5 t18) 20 t20) 5 t22) w)
 (j1 (upd (upd (upd (upd (upd (upd (ini [a0]) 2 (.slice none 0 0)) 3 (.slice none 0 0)) 4 (Z.i 0)) 8 t8) 5 t18) 20 t20) w)) fun e1 g1 w =>
 oP .lss 3 (g1 5) (Z.i 3) w R fun t24 w =>
 gd t24 false (fun K => K (g1 5) w) w fun t26 w =>
 gd t24 false (fun K => K a0 w) w fun t27 w =>
 gd t24 false (fun K => oN 24 t27 w R K) w fun t28 w =>
 gd t24 false (fun K => oP .gtr 3 t26 t28 w R K) w fun t29 w =>
 pick t24 (.bool true) t29 w fun t30 w =>
 cond t30 (R (.returned (.tuple #[(.slice none 0 0), (.slice none 0 0), (Z.i 34)])) w)
 (drawn w fun T w =>
 aQ T w (fun w K => aX ((Instr.sliceAt 24 a0 (some (Z.i 2)) (some (g1 5)) none).run Tryz.prog w) aO K) fun t33 =>
 aQ T w (fun w K => aX ((Instr.sliceAt 24 a0 (some (g1 5)) none none).run Tryz.prog w) aO K) fun t36 =>
 ext w fun w =>
 R (.returned (.tuple #[t33, t36, (Z.i 0)])) w))
theorem Ye.calls {R w a0} : Ye R w a0 → oX 148 #[a0] w R := Z.k [0,2,3,4,5,8,20,30]
def Yl (a0 : Value) : Prop :=
 oA 214 w R fun t2 w =>
 oI 24 a0 (Z.i 0) w R fun t5 w =>
 oL 5 t5 w R fun t6 w =>
 oQ true .eql 5 t6 (Z.u 1) w R fun t8 w =>
 cond t8 (aX ((Instr.sliceAt 24 a0 (some (Z.i 1)) none none).run Tryz.prog w) R fun t10 w =>
 oC 168 #[t10] w R fun t11 w =>
 oE t11 0 w R fun t12 w =>
 oE t11 1 w R fun t13 w =>
 oS 214 t2 t12 w R fun _ w =>
 jd ((Instr.loadAt 214 t2).run Tryz.prog w) w fun r0 =>
 R (.returned (.tuple #[r0, t13])) w)
 (oQ true .eql 5 t6 (Z.u 3) w R fun t15 w =>
 cond t15 (aX ((Instr.sliceAt 24 a0 (some (Z.i 1)) none none).run Tryz.prog w) R fun t17 w =>
 oC 169 #[t17] w R fun t18 w =>
 oE t18 0 w R fun t19 w =>
 oE t18 1 w R fun t20 w =>
 oS 214 t2 t19 w R fun _ w =>
 jd ((Instr.loadAt 214 t2).run Tryz.prog w) w fun r0 =>
 R (.returned (.tuple #[r0, t20])) w)
 (oQ true .eql 5 t6 (Z.u 64) w R fun t22 w =>
 cond t22 (aX ((Instr.sliceAt 24 a0 (some (Z.i 1)) none none).run Tryz.prog w) R fun t24 w =>
 oC 170 #[t24] w R fun t25 w =>
 oE t25 0 w R fun t26 w =>
 oE t25 1 w R fun t27 w =>
 oS 214 t2 t26 w R fun _ w =>
 jd ((Instr.loadAt 214 t2).run Tryz.prog w) w fun r0 =>
 R (.returned (.tuple #[r0, t27])) w)
 (oD 214 #[] w R fun t28 w =>
 oS 214 t2 t28 w R fun _ w =>
 jd ((Instr.loadAt 214 t2).run Tryz.prog w) w fun r0 =>
 R (.returned (.tuple #[r0, (.bool false)])) w)))
theorem Yl.calls {R w a0} : Yl R w a0 → oX 149 #[a0] w R := Z.k [0,2,3,6,7,14,21]
def Zo (a0 a1 a2 : Value) : Prop :=
 oP .lss 3 a2 (Z.i 0) w R fun t14 w =>
 gd t14 false (fun K => K a2 w) w fun t16 w =>
 gd t14 false (fun K => K a0 w) w fun t17 w =>
 gd t14 false (fun K => oC 30 #[t17] w R K) w fun t18 w =>
 gd t14 false (fun K => oP .geq 3 t16 t18 w R K) w fun t19 w =>
 pick t14 (.bool true) t19 w fun t20 w =>
 cond t20 (R (.returned (.tuple #[(Z.i 0), (Z.i 0), (Z.i 32)])) w)
 (oD 229 #[(0, a0), (1, a2)] w R fun t23 w =>
 oB 229 t23 w R fun t24 w =>
 join (upd (upd (upd (upd (upd (ini [a0, a1, a2]) 6 (Z.i 0)) 7 (Z.i 0)) 8 (Z.i 0)) 20 t20) 9 t24) (fun j1 =>
 oN 121 a1 w R fun t26 w =>
 loop (upd (upd (upd (upd (upd (upd (upd (upd (ini [a0, a1, a2]) 6 (Z.i 0)) 7 (Z.i 0)) 8 (Z.i 0)) 20 t20) 9 t24) 25 a1) 26 t26) 27 (Z.i 0)) w fun e2 g2 w j2 =>
 oP .lss 3 (g2 27) t26 w R fun t28 w =>
 cond t28 (oI 121 a1 (g2 27) w R fun t30 w =>
 oL 209 t30 w R fun t31 w =>
 oA 209 w R fun t11 w =>
 oS 209 t11 t31 w R fun _ w =>
 oL 209 t11 w R fun t33 w =>
 oC 171 #[t24, t33] w R fun t34 w =>
 oQ true .neq 25 t34 (Z.i 0) w R fun t36 w =>
 cond t36 (bW t24 w fun t38 w =>
 oG 229 t38 1 3 w R fun t40 w =>
 R (.returned (.tuple #[t40, (g2 27), t34])) w)
 (oP .add 3 (g2 27) (Z.i 1) w R fun t43 w =>
 j2 (upd (upd (upd (upd (upd (upd (mix [28,11,10,12,36,6,7,8,27] g2 e2) 28 t28) 11 t11) 10 (g2 27)) 12 t34) 36 t36) 27 t43) w))
 (j1 (upd (mix [28,11,10,12,36,6,7,8,27] g2 e2) 28 t28) w)) fun e1 g1 w =>
 bW t24 w fun t45 w =>
 oG 229 t45 1 3 w R fun t47 w =>
 oN 121 a1 w R fun t49 w =>
 R (.returned (.tuple #[t47, t49, (Z.i 0)])) w)
theorem Zo.calls {R w a0 a1 a2} : Zo R w a0 a1 a2 → oX 150 #[a0, a1, a2] w R := Z.k [0,1,2,6,7,8,9,10,11,12,20,25,26,27,28,36]
def X8 (a0 : Value) : Prop :=
 oP .and 5 a0 (Z.u 2) w R fun t4 w =>
 oQ true .neq 5 t4 (Z.u 0) w R fun t5 w =>
 R (.returned t5) w
theorem X8.calls {R w a0} : X8 R w a0 → oX 151 #[a0] w R := Z.k [0,2]
def X7 (a0 : Value) : Prop :=
 oP .and 5 a0 (Z.u 4) w R fun t4 w =>
 oQ true .neq 5 t4 (Z.u 0) w R fun t5 w =>
 R (.returned t5) w
theorem X7.calls {R w a0} : X7 R w a0 → oX 152 #[a0] w R := Z.k [0,2]
def Zp (a0 a1 : Value) : Prop :=
 oB 214 a1 w R fun t3 w =>
 oA 66 w R fun t4 w =>
 oG 214 t3 0 5 w R fun t7 w =>
 oQ true .eql 5 t7 (Z.u 1) w R fun t9 w =>
 cond t9 (oG 214 t3 1 5 w R fun t11 w =>
 oD 66 #[(0, t11)] w R fun t12 w =>
 oS 66 t4 t12 w R fun _ w =>
 jd ((Instr.loadAt 66 t4).run Tryz.prog w) w fun r0 =>
 R (.returned r0) w)
 (oQ true .eql 5 t7 (Z.u 3) w R fun t14 w =>
 cond t14 (oG 214 t3 1 5 w R fun t17 w =>
 oC 172 #[t17] w R fun t18 w =>
 oC 82 #[a0, t18] w R fun t19 w =>
 oD 66 #[] w R fun t20 w =>
 oS 66 t4 t20 w R fun _ w =>
 jd ((Instr.loadAt 66 t4).run Tryz.prog w) w fun r0 =>
 R (.returned r0) w)
 (oG 214 t3 2 124 w R fun t23 w =>
 oC 65 #[a0, t23] w R fun t24 w =>
 oA 66 w R fun t5 w =>
 oS 66 t5 t24 w R fun _ w =>
 oF 66 t5 0 w R fun t25 w =>
 oS 5 t25 (Z.u 0) w R fun _ w =>
 oL 66 t5 w R fun t26 w =>
 oS 66 t4 t26 w R fun _ w =>
 jd ((Instr.loadAt 66 t4).run Tryz.prog w) w fun r0 =>
 R (.returned r0) w))
theorem Zp.calls {R w a0 a1} : Zp R w a0 a1 → oX 153 #[a0, a1] w R := Z.k [0,1,3,4,5,7,8,13]
def Yv (a0 : Value) : Prop :=
 oP .geq 5 a0 (Z.u 240) w R fun t4 w =>
 gd t4 true (fun K => K a0 w) w fun t6 w =>
 gd t4 true (fun K => oP .leq 5 t6 (Z.u 249) w R K) w fun t7 w =>
 pick t4 t7 (.bool false) w fun t8 w =>
 R (.returned t8) w
theorem Yv.calls {R w a0} : Yv R w a0 → oX 155 #[a0] w R := Z.k [0,2]
def Zq (a0 a1 a2 a3 : Value) : Prop :=
 aX ((Instr.box 33 a0).run Tryz.prog w) (gJ R) fun t4 w =>
 aX ((Instr.box 37 a3).run Tryz.prog w) (gJ R) fun t7 w =>
 aX ((Instr.alloc 3 true (.tuple #[])).run Tryz.prog w) (gJ R) fun t9 w =>
 sQ ((Instr.storeAt 3 t9 (Z.i 0)).run Tryz.prog w) (gJ R) fun _ w =>
 join (upd (upd (upd (upd (ini [a0, a1, a2, a3]) 4 t4) 7 t7) 8 (Z.i 0)) 9 t9) (fun j1 =>
 aX ((Instr.loadAt 33 t4).run Tryz.prog w) (gJ R) fun t11 w =>
 bW t11 w fun t12 w =>
 aX ((Instr.fieldAt 91 t12 0).run Tryz.prog w) (gJ R) fun t13 w =>
 aX ((Instr.loadAt 32 t13).run Tryz.prog w) (gJ R) fun t14 w =>
 kU Tryz.prog 178 #[t14, a1, a2] w (gJ R) fun t17 w =>
 vM Tryz.prog t17 1 w (fun l2 xs2 w mid2 fin2 =>
 mid2 (fun w => drawn w fun T w =>
 aQ T w (fun w K => oL 33 t4 w aO K) fun t19 =>
 aQ T w (fun w K => bW t19 w K) fun t20 =>
 qG T w 91 t20 1 52 fun t22 =>
 aQ T w (fun w K => oL 37 t7 w aO K) fun t24 =>
 aQ T w (fun w K => oI 52 t22 (xs2.getD 0 undef) w aO K) fun t25 =>
 ext w fun w =>
 oS 37 t25 t24 w aO fun _ w =>
 ext w fun w =>
 oL 3 t9 w aO fun t26 w =>
 oP .add 3 t26 (Z.i 1) w aO fun t27 w =>
 oS 3 t9 t27 w aO fun _ w =>
 fin2 .normal w) w)
 (fun D w => j1 (upd (upd (upd (upd (upd (upd (ini [a0, a1, a2, a3]) 4 t4) 7 t7) 8 (Z.i 0)) 9 t9) 17 t17) 1000000 (mkV D undef)) w)
 []) fun e1 g1 w =>
 aX ((Instr.loadAt 3 t9).run Tryz.prog w) (gJ R) fun t28 w =>
 lS (xM (g1 1000000)) w fun w => R (.returned t28) w
theorem Zq.calls {R w a0 a1 a2 a3} : Zq R w a0 a1 a2 a3 → oX 157 #[a0, a1, a2, a3] w R := Z.k [0,1,2,3,4,7,8,9,10,17,18]
def Zr (a0 : Value) : Prop :=
 oA 209 w R fun t2 w =>
 bW a0 w fun t5 w =>
 oG 204 t5 1 3 w R fun t7 w =>
 join (upd (upd (ini [a0]) 2 t2) 3 t7) (fun j1 =>
 loop (upd (upd (ini [a0]) 2 t2) 3 t7) w fun e2 g2 w j2 =>
 drawn w fun T w =>
 aQ T w (fun w K => bW a0 w K) fun t9 =>
 qG T w 204 t9 1 3 fun t11 =>
 aQ T w (fun w K => bW a0 w K) fun t13 =>
 qG T w 204 t13 0 24 fun t15 =>
 aQ T w (fun w K => oN 24 t15 w aO K) fun t16 =>
 aQ T w (fun w K => oP .lss 3 t11 t16 w aO K) fun t17 =>
 aQ T w (fun w K => gd t17 true (fun K => K a0 w) w K) fun t19 =>
 aQ T w (fun w K => gd t17 true (fun K => bW t19 w K) w K) fun t20 =>
 aQ T w (fun w K => gd t17 true (fun K => oF 204 t20 0 w aO K) w K) fun t21 =>
 aQ T w (fun w K => gd t17 true (fun K => oL 24 t21 w aO K) w K) fun t22 =>
 aQ T w (fun w K => gd t17 true (fun K => K a0 w) w K) fun t23 =>
 aQ T w (fun w K => gd t17 true (fun K => bW t23 w K) w K) fun t24 =>
 aQ T w (fun w K => gd t17 true (fun K => oF 204 t24 1 w aO K) w K) fun t25 =>
 aQ T w (fun w K => gd t17 true (fun K => oL 3 t25 w aO K) w K) fun t26 =>
 aQ T w (fun w K => gd t17 true (fun K => oI 24 t22 t26 w aO K) w K) fun t27 =>
 aQ T w (fun w K => gd t17 true (fun K => oL 5 t27 w aO K) w K) fun t28 =>
 aQ T w (fun w K => gd t17 true (fun K => oC 115 #[t28] w aO K) w K) fun t29 =>
 aQ T w (fun w K => pick t17 t29 (.bool false) w K) fun t30 =>
 ext w fun w =>
 cond t30 (bW a0 w fun t32 w =>
 oG 204 t32 1 3 w R fun t34 w =>
 oP .add 3 t34 (Z.i 1) w R fun t35 w =>
 bW a0 w fun t36 w =>
 oF 204 t36 1 w R fun t37 w =>
 oS 3 t37 t35 w R fun _ w =>
 j2 (upd (mix [30] g2 e2) 30 t30) w)
 (j1 (upd (mix [30] g2 e2) 30 t30) w)) fun e1 g1 w =>
 drawn w fun T w =>
 aQ T w (fun w K => bW a0 w K) fun t39 =>
 qG T w 204 t39 0 24 fun t41 =>
 aQ T w (fun w K => bW a0 w K) fun t44 =>
 qG T w 204 t44 1 3 fun t46 =>
 aQ T w (fun w K => aX ((Instr.sliceAt 24 t41 (some t7) (some t46) none).run Tryz.prog w) aO K) fun t47 =>
 ext w fun w =>
 oC 179 #[t47] w R fun t48 w =>
 aQ T w (fun w K => oD 209 #[(0, (Z.u 0)), (5, t48)] w aO K) fun t49 =>
 ext w fun w =>
 oS 209 t2 t49 w R fun _ w =>
 ext w fun w =>
 jd ((Instr.loadAt 209 t2).run Tryz.prog w) w fun r0 =>
 R (.returned r0) w
theorem Zr.calls {R w a0} : Zr R w a0 → oX 162 #[a0] w R := Z.k [0,2,3,30]
def Zt (a0 : Value) : Prop :=
 join (upd (ini [a0]) 2 (Z.u 0)) (fun j1 =>
 drawn w fun T w =>
 aQ T w (fun w K => bW a0 w K) fun t4 =>
 qG T w 204 t4 1 3 fun t6 =>
 aQ T w (fun w K => bW a0 w K) fun t8 =>
 qG T w 204 t8 0 24 fun t10 =>
 aQ T w (fun w K => oN 24 t10 w aO K) fun t11 =>
 aQ T w (fun w K => oP .geq 3 t6 t11 w aO K) fun t12 =>
 ext w fun w =>
 cond t12 (oD 206 #[(0, (Z.i 20))] w R fun t13 w =>
 aX ((Instr.makeInterface 206 t13).run Tryz.prog w) R fun t14 w =>
 aX ((Instr.panic t14).run Tryz.prog w) R fun _ w =>
 j1 (upd (upd (ini [a0]) 2 (Z.u 0)) 12 t12) w)
 (j1 (upd (upd (ini [a0]) 2 (Z.u 0)) 12 t12) w)) fun e1 g1 w =>
 bW a0 w fun t16 w =>
 oG 204 t16 1 3 w R fun t18 w =>
 oP .add 3 t18 (Z.i 1) w R fun t19 w =>
 bW a0 w fun t20 w =>
 oF 204 t20 1 w R fun t21 w =>
 oS 3 t21 t19 w R fun _ w =>
 drawn w fun T w =>
 aQ T w (fun w K => bW a0 w K) fun t23 =>
 qG T w 204 t23 0 24 fun t25 =>
 aQ T w (fun w K => bW a0 w K) fun t27 =>
 qG T w 204 t27 1 3 fun t29 =>
 aQ T w (fun w K => oP .sub 3 t29 (Z.i 1) w aO K) fun t30 =>
 aQ T w (fun w K => oI 24 t25 t30 w aO K) fun t31 =>
 aQ T w (fun w K => oL 5 t31 w aO K) fun t32 =>
 ext w fun w =>
 R (.returned t32) w
theorem Zt.calls {R w a0} : Zt R w a0 → oX 163 #[a0] w R := Z.k [0,2,12]
def Zu (a0 : Value) : Prop :=
 oC 163 #[a0] w R fun t5 w =>
 oC 163 #[a0] w R fun t8 w =>
 oC 138 #[t5, t8] w R fun t9 w =>
 R (.returned t9) w
theorem Zu.calls {R w a0} : Zu R w a0 → oX 164 #[a0] w R := Z.k [0,2,3]
def Zv (a0 a1 a2 : Value) : Prop :=
 join (upd (upd (ini [a0, a1, a2]) 6 (.slice none 0 0)) 7 (.slice none 0 0)) (fun j1 =>
 loop (upd (upd (upd (upd (ini [a0, a1, a2]) 6 (.slice none 0 0)) 7 (.slice none 0 0)) 11 a2) 12 (Z.i 0)) w fun e2 g2 w j2 =>
 oP .lss 3 (g2 12) a2 w R fun t13 w =>
 cond t13 (oC 163 #[a0] w R fun t15 w =>
 oC 163 #[a0] w R fun t18 w =>
 oD 240 #[(0, t15), (1, t18)] w R fun t19 w =>
 oA 240 w R fun t9 w =>
 oS 240 t9 t19 w R fun _ w =>
 join (upd (upd (upd (mix [13,8,9,10,24,7,12] g2 e2) 13 t13) 8 t15) 9 t9) (fun j3 =>
 oL 240 t9 w R fun t21 w =>
 oC 180 #[a1, t21] w R fun t22 w =>
 oQ true .neq 25 t22 (Z.i 0) w R fun t24 w =>
 cond t24 (oD 206 #[(0, t22)] w R fun t26 w =>
 aX ((Instr.makeInterface 206 t26).run Tryz.prog w) R fun t27 w =>
 aX ((Instr.panic t27).run Tryz.prog w) R fun _ w =>
 j3 (upd (upd (upd (upd (upd (mix [13,8,9,10,24,7,12] g2 e2) 13 t13) 8 t15) 9 t9) 10 t22) 24 t24) w)
 (j3 (upd (upd (upd (upd (upd (mix [13,8,9,10,24,7,12] g2 e2) 13 t13) 8 t15) 9 t9) 10 t22) 24 t24) w)) fun e3 g3 w =>
 oL 240 t9 w R fun t29 w =>
 aX ((Instr.buildSlice 207 1 #[(0, t29)]).run Tryz.prog w) R fun t30 w =>
 aX ((Builtin.append_ #[207, 207] 207 #[(g2 7), t30]).run Tryz.prog w) R fun t31 w =>
 oP .add 3 (g2 12) (Z.i 1) w R fun t32 w =>
 j2 (upd (upd (mix [10,24] g3 e3) 7 t31) 12 t32) w)
 (j1 (upd (mix [13,8,9,10,24,7,12] g2 e2) 13 t13) w)) fun e1 g1 w =>
 R (.returned (g1 7)) w
theorem Zv.calls {R w a0 a1 a2} : Zv R w a0 a1 a2 → oX 165 #[a0, a1, a2] w R := Z.k [0,1,2,6,7,8,9,10,11,12,13,24]
def Zw (a0 : Value) : Prop :=
 oA 209 w R fun t2 w =>
 oC 164 #[a0] w R fun t5 w =>
 oC 163 #[a0] w R fun t7 w =>
 oD 209 #[(0, (Z.u 60)), (1, t5), (2, t7)] w R fun t8 w =>
 oA 209 w R fun t3 w =>
 oS 209 t3 t8 w R fun _ w =>
 join (upd (upd (ini [a0]) 2 t2) 3 t3) (fun j1 =>
 oG 209 t3 2 5 w R fun t11 w =>
 oQ true .eql 5 t11 (Z.u 8) w R fun t12 w =>
 cond t12 (oC 167 #[a0] w R fun t14 w =>
 oF 209 t3 3 w R fun t15 w =>
 oS 4 t15 (.bool true) w R fun _ w =>
 oF 209 t3 2 w R fun t16 w =>
 oS 5 t16 t14 w R fun _ w =>
 j1 (upd (upd (upd (ini [a0]) 2 t2) 3 t3) 9 t12) w)
 (oG 209 t3 2 5 w R fun t19 w =>
 oC 115 #[t19] w R fun t20 w =>
 oU t20 w R fun t21 w =>
 cond t21 (oD 206 #[(0, (Z.i 31))] w R fun t22 w =>
 aX ((Instr.makeInterface 206 t22).run Tryz.prog w) R fun t23 w =>
 aX ((Instr.panic t23).run Tryz.prog w) R fun _ w =>
 j1 (upd (upd (upd (upd (ini [a0]) 2 t2) 3 t3) 9 t12) 17 t21) w)
 (j1 (upd (upd (upd (upd (ini [a0]) 2 t2) 3 t3) 9 t12) 17 t21) w))) fun e1 g1 w =>
 oL 209 t3 w R fun t24 w =>
 oS 209 t2 t24 w R fun _ w =>
 jd ((Instr.loadAt 209 t2).run Tryz.prog w) w fun r0 =>
 R (.returned r0) w
theorem Zw.calls {R w a0} : Zw R w a0 → oX 166 #[a0] w R := Z.k [0,2,3,9,17]
def Zx (a0 : Value) : Prop :=
 oC 163 #[a0] w R fun t5 w =>
 join (upd (upd (ini [a0]) 2 (Z.u 0)) 3 t5) (fun j1 =>
 oP .lss 5 t5 (Z.u 64) w R fun t7 w =>
 cond t7 (oD 206 #[(0, (Z.i 31))] w R fun t8 w =>
 aX ((Instr.makeInterface 206 t8).run Tryz.prog w) R fun t9 w =>
 aX ((Instr.panic t9).run Tryz.prog w) R fun _ w =>
 j1 (upd (upd (upd (ini [a0]) 2 (Z.u 0)) 3 t5) 7 t7) w)
 (j1 (upd (upd (upd (ini [a0]) 2 (Z.u 0)) 3 t5) 7 t7) w)) fun e1 g1 w =>
 R (.returned t5) w
theorem Zx.calls {R w a0} : Zx R w a0 → oX 167 #[a0] w R := Z.k [0,2,3,7]
def Yg (a0 : Value) : Prop :=
 oA 214 w R fun t2 w =>
 oN 24 a0 w R fun t6 w =>
 oQ true .neq 3 t6 (Z.i 2) w R fun t7 w =>
 cond t7 (oD 214 #[] w R fun t8 w =>
 oS 214 t2 t8 w R fun _ w =>
 jd ((Instr.loadAt 214 t2).run Tryz.prog w) w fun r0 =>
 R (.returned (.tuple #[r0, (.bool false)])) w)
 (oI 24 a0 (Z.i 1) w R fun t10 w =>
 oL 5 t10 w R fun t11 w =>
 oQ true .eql 5 t11 (Z.u 242) w R fun t12 w =>
 gd t12 false (fun K => K a0 w) w fun t14 w =>
 gd t12 false (fun K => oI 24 t14 (Z.i 1) w R K) w fun t15 w =>
 gd t12 false (fun K => oL 5 t15 w R K) w fun t16 w =>
 gd t12 false (fun K => oQ true .eql 5 t16 (Z.u 246) w R K) w fun t17 w =>
 pick t12 (.bool true) t17 w fun t18 w =>
 gd t18 false (fun K => K a0 w) w fun t20 w =>
 gd t18 false (fun K => oI 24 t20 (Z.i 1) w R K) w fun t21 w =>
 gd t18 false (fun K => oL 5 t21 w R K) w fun t22 w =>
 gd t18 false (fun K => oQ true .eql 5 t22 (Z.u 110) w R K) w fun t23 w =>
 pick t18 (.bool true) t23 w fun t24 w =>
 drawn w fun T w =>
 aQ Ext w (fun w K => oI 24 a0 (Z.i 1) w aO K) fun t26 =>
 aQ Ext w (fun w K => oL 5 t26 w aO K) fun t27 =>
 aQ Ext w (fun w K => oD 214 #[(0, (Z.u 1)), (1, t27)] w aO K) fun t28 =>
 aQ Ext w (fun w K => oI 24 a0 (Z.i 0) w aO K) fun t30 =>
 aQ Ext w (fun w K => oL 5 t30 w aO K) fun t31 =>
 aQ Ext w (fun w K => oQ true .eql 5 t31 (Z.u 255) w aO K) fun t32 =>
 aQ Ext w (fun w K => gd t32 true (fun K => K a0 w) w K) fun t34 =>
 aQ Ext w (fun w K => gd t32 true (fun K => oI 24 t34 (Z.i 1) w aO K) w K) fun t35 =>
 aQ Ext w (fun w K => gd t32 true (fun K => oL 5 t35 w aO K) w K) fun t36 =>
 aQ Ext w (fun w K => gd t32 true (fun K => oQ true .eql 5 t36 (Z.u 2) w aO K) w K) fun t37 =>
 aQ Ext w (fun w K => pick t32 t37 (.bool false) w K) fun t38 =>
 aQ Ext w (fun w K => gd t38 false (fun K => K a0 w) w K) fun t40 =>
 aQ Ext w (fun w K => gd t38 false (fun K => oI 24 t40 (Z.i 0) w aO K) w K) fun t41 =>
 aQ Ext w (fun w K => gd t38 false (fun K => oL 5 t41 w aO K) w K) fun t42 =>
 aQ Ext w (fun w K => gd t38 false (fun K => oQ true .eql 5 t42 (Z.u 0) w aO K) w K) fun t43 =>
 aQ Ext w (fun w K => gd t38 false (fun K => K t43 w) w K) fun t44 =>
 aQ T w (fun w K => gd t44 true (fun K => K t24 w) w K) fun t45 =>
 aQ T w (fun w K => gd t38 false (fun K => pick t44 t45 (.bool false) w K) w K) fun t46 =>
 aQ T w (fun w K => pick t38 (.bool true) t46 w K) fun t47 =>
 ext w fun w =>
 yj T w (fun w K => oS 214 t2 t28 w R K) fun _ w =>
 ext w fun w =>
 jd ((Instr.loadAt 214 t2).run Tryz.prog w) w fun r0 =>
 R (.returned (.tuple #[r0, t47])) w)
theorem Yg.calls {R w a0} : Yg R w a0 → oX 168 #[a0] w R := Z.k [0,2,3,4,7]
def Yi (a0 : Value) : Prop :=
 oA 214 w R fun t2 w =>
 oN 24 a0 w R fun t5 w =>
 oQ true .neq 3 t5 (Z.i 1) w R fun t6 w =>
 gd t6 false (fun K => K a0 w) w fun t8 w =>
 gd t6 false (fun K => oI 24 t8 (Z.i 0) w R K) w fun t9 w =>
 gd t6 false (fun K => oL 5 t9 w R K) w fun t10 w =>
 gd t6 false (fun K => oQ true .neq 5 t10 (Z.u 0) w R K) w fun t11 w =>
 gd t6 false (fun K => K t11 w) w fun t12 w =>
 gd t12 true (fun K => K a0 w) w fun t13 w =>
 gd t12 true (fun K => oI 24 t13 (Z.i 0) w R K) w fun t14 w =>
 gd t12 true (fun K => oL 5 t14 w R K) w fun t15 w =>
 gd t12 true (fun K => oQ true .neq 5 t15 (Z.u 128) w R K) w fun t16 w =>
 gd t6 false (fun K => pick t12 t16 (.bool false) w K) w fun t17 w =>
 pick t6 (.bool true) t17 w fun t18 w =>
 cond t18 (oD 214 #[] w R fun t19 w =>
 oS 214 t2 t19 w R fun _ w =>
 jd ((Instr.loadAt 214 t2).run Tryz.prog w) w fun r0 =>
 R (.returned (.tuple #[r0, (.bool false)])) w)
 (oI 24 a0 (Z.i 0) w R fun t21 w =>
 oL 5 t21 w R fun t22 w =>
 oD 214 #[(0, (Z.u 3)), (1, t22)] w R fun t23 w =>
 oS 214 t2 t23 w R fun _ w =>
 jd ((Instr.loadAt 214 t2).run Tryz.prog w) w fun r0 =>
 R (.returned (.tuple #[r0, (.bool true)])) w)
theorem Yi.calls {R w a0} : Yi R w a0 → oX 169 #[a0] w R := Z.k [0,2,3,18]
def Yk (a0 : Value) : Prop :=
 oA 214 w R fun t2 w =>
 oN 24 a0 w R fun t7 w =>
 oP .lss 3 t7 (Z.i 2) w R fun t8 w =>
 gd t8 false (fun K => K a0 w) w fun t10 w =>
 gd t8 false (fun K => oI 24 t10 (Z.i 0) w R K) w fun t11 w =>
 gd t8 false (fun K => oL 5 t11 w R K) w fun t12 w =>
 gd t8 false (fun K => oQ true .neq 5 t12 (Z.u 0) w R K) w fun t13 w =>
 pick t8 (.bool true) t13 w fun t14 w =>
 cond t14 (oD 214 #[] w R fun t15 w =>
 oS 214 t2 t15 w R fun _ w =>
 jd ((Instr.loadAt 214 t2).run Tryz.prog w) w fun r0 =>
 R (.returned (.tuple #[r0, (.bool false)])) w)
 (aX ((Instr.sliceAt 24 a0 (some (Z.i 1)) none none).run Tryz.prog w) R fun t18 w =>
 oC 64 #[t18] w R fun t19 w =>
 oE t19 0 w R fun t20 w =>
 oE t19 1 w R fun t21 w =>
 oA 124 w R fun t4 w =>
 oS 124 t4 t20 w R fun _ w =>
 drawn w fun T w =>
 aQ Ext w (fun w K => oL 124 t4 w aO K) fun t22 =>
 aQ Ext w (fun w K => oD 214 #[(0, (Z.u 64)), (2, t22)] w aO K) fun t23 =>
 aQ Ext w (fun w K => oQ true .eql 25 t21 (Z.i 0) w aO K) fun t25 =>
 aQ Ext w (fun w K => gd t25 true (fun K => oF 124 t4 0 w aO K) w K) fun t27 =>
 aQ Ext w (fun w K => gd t25 true (fun K => oL 5 t27 w aO K) w K) fun t28 =>
 aQ Ext w (fun w K => gd t25 true (fun K => oC 181 #[t28] w aO K) w K) fun t29 =>
 aQ T w (fun w K => pick t25 t29 (.bool false) w K) fun t30 =>
 ext w fun w =>
 yj T w (fun w K => oS 214 t2 t23 w R K) fun _ w =>
 ext w fun w =>
 jd ((Instr.loadAt 214 t2).run Tryz.prog w) w fun r0 =>
 R (.returned (.tuple #[r0, t30])) w)
theorem Yk.calls {R w a0} : Yk R w a0 → oX 170 #[a0] w R := Z.k [0,2,3,4,5,14]
def Zy (a0 a1 : Value) : Prop :=
 oB 209 a1 w R fun t3 w =>
 join (upd (upd (upd (ini [a0, a1]) 3 t3) 4 (Z.i 0)) 5 .nilFunc) (fun j1 =>
 oG 209 t3 0 5 w R fun t8 w =>
 oQ true .eql 5 t8 (Z.u 0) w R fun t10 w =>
 cond t10 (j1 (upd (upd (upd (upd (upd (upd (ini [a0, a1]) 3 t3) 4 (Z.i 0)) 5 .nilFunc) 8 t8) 9 t10) 5 (.func (.func 182) #[] #[])) w)
 (oQ true .eql 5 t8 (Z.u 8) w R fun t12 w =>
 cond t12 (j1 (upd (upd (upd (upd (upd (upd (upd (ini [a0, a1]) 3 t3) 4 (Z.i 0)) 5 .nilFunc) 8 t8) 9 t10) 11 t12) 5 (.func (.func 183) #[] #[])) w)
 (oQ true .eql 5 t8 (Z.u 17) w R fun t14 w =>
 cond t14 (j1 (upd (upd (upd (upd (upd (upd (upd (upd (ini [a0, a1]) 3 t3) 4 (Z.i 0)) 5 .nilFunc) 8 t8) 9 t10) 11 t12) 13 t14) 5 (.func (.func 184) #[] #[])) w)
 (join (upd (upd (upd (upd (upd (upd (upd (ini [a0, a1]) 3 t3) 4 (Z.i 0)) 5 .nilFunc) 8 t8) 9 t10) 11 t12) 13 t14) (fun j2 =>
 oQ true .eql 5 t8 (Z.u 29) w R fun t16 w =>
 cond t16 (j2 (upd (upd (upd (upd (upd (upd (upd (upd (ini [a0, a1]) 3 t3) 4 (Z.i 0)) 5 .nilFunc) 8 t8) 9 t10) 11 t12) 13 t14) 15 t16) w)
 (oQ true .eql 5 t8 (Z.u 41) w R fun t17 w =>
 j2 (upd (upd (upd (upd (upd (upd (upd (upd (upd (ini [a0, a1]) 3 t3) 4 (Z.i 0)) 5 .nilFunc) 8 t8) 9 t10) 11 t12) 13 t14) 15 t16) 15 t17) w)) fun e2 g2 w =>
 cond (g2 15) (j1 (upd (mix [15] g2 e2) 5 (.func (.func 185) #[] #[])) w)
 (oQ true .eql 5 t8 (Z.u 40) w R fun t19 w =>
 cond t19 (j1 (upd (upd (mix [15] g2 e2) 18 t19) 5 (.func (.func 186) #[] #[])) w)
 (oQ true .eql 5 t8 (Z.u 44) w R fun t21 w =>
 cond t21 (j1 (upd (upd (upd (mix [15] g2 e2) 18 t19) 20 t21) 5 (.func (.func 187) #[] #[])) w)
 (oQ true .eql 5 t8 (Z.u 19) w R fun t23 w =>
 cond t23 (j1 (upd (upd (upd (upd (mix [15] g2 e2) 18 t19) 20 t21) 22 t23) 5 (.func (.func 188) #[] #[])) w)
 (oQ true .eql 5 t8 (Z.u 5) w R fun t25 w =>
 cond t25 (j1 (upd (upd (upd (upd (upd (mix [15] g2 e2) 18 t19) 20 t21) 22 t23) 24 t25) 5 (.func (.func 189) #[] #[])) w)
 (oQ true .eql 5 t8 (Z.u 60) w R fun t27 w =>
 cond t27 (j1 (upd (upd (upd (upd (upd (upd (mix [15] g2 e2) 18 t19) 20 t21) 22 t23) 24 t25) 26 t27) 5 (.func (.func 190) #[] #[])) w)
 (oQ true .eql 5 t8 (Z.u 18) w R fun t29 w =>
 cond t29 (j1 (upd (upd (upd (upd (upd (upd (upd (mix [15] g2 e2) 18 t19) 20 t21) 22 t23) 24 t25) 26 t27) 28 t29) 5 (.func (.func 191) #[] #[])) w)
 (R (.returned (Z.i 31)) w))))))))))) fun e1 g1 w =>
 oL 209 t3 w R fun t32 w =>
 AY Tryz.prog (g1 5) #[a0, t32] w R fun t33 w =>
 oG 209 t3 0 5 w R fun t36 w =>
 oQ true .eql 5 t36 (Z.u 8) w R fun t37 w =>
 gd t37 false (fun K => oF 209 t3 0 w R K) w fun t39 w =>
 gd t37 false (fun K => oL 5 t39 w R K) w fun t40 w =>
 gd t37 false (fun K => oQ true .eql 5 t40 (Z.u 0) w R K) w fun t41 w =>
 gd t37 false (fun K => K t41 w) w fun t42 w =>
 gd t42 true (fun K => oF 209 t3 5 w R K) w fun t43 w =>
 gd t42 true (fun K => oL 24 t43 w R K) w fun t44 w =>
 gd t42 true (fun K => oN 24 t44 w R K) w fun t45 w =>
 gd t42 true (fun K => oP .gtr 3 t45 (Z.i 0) w R K) w fun t46 w =>
 gd t37 false (fun K => pick t42 t46 (.bool false) w K) w fun t47 w =>
 pick t37 (.bool true) t47 w fun t48 w =>
 bW a0 w fun t49 w =>
 oF 229 t49 3 w R fun t50 w =>
 oS 4 t50 t48 w R fun _ w =>
 R (.returned t33) w
theorem Zy.calls {R w a0 a1} : Zy R w a0 a1 → oX 171 #[a0, a1] w R := Z.k [0,1,3,4,5,6,8,9,11,13,15,18,20,22,24,26,28]
def Zz (a0 : Value) : Prop :=
 oQ true .eql 5 a0 (Z.u 0) w R fun t4 w =>
 cond t4 (R (.returned (Z.i 0)) w)
 (R (.returned (Z.i 1)) w)
theorem Zz.calls {R w a0} : Zz R w a0 → oX 172 #[a0] w R := Z.k [0,2,4]
def ZA (a0 a1 a2 : Value) : Prop :=
 oB 32 a0 w R fun t3 w =>
 oB 3 a1 w R fun t4 w =>
 oB 3 a2 w R fun t5 w =>
 aX ((Instr.makeFunc (.func 197) #[] #[t3, t4, t5]).run Tryz.prog w) R fun t7 w =>
 R (.returned t7) w
theorem ZA.calls {R w a0 a1 a2} : ZA R w a0 a1 a2 → oX 178 #[a0, a1, a2] w R := Z.k [0,1,2,3,4,5,6]
def ZB (a0 : Value) : Prop :=
 oQ true .eql 24 a0 (.slice none 0 0) w R fun t4 w =>
 cond t4 (R (.returned (.slice none 0 0)) w)
 (aX ((Instr.buildSlice 24 0 #[]).run Tryz.prog w) R fun t5 w =>
 aX ((Builtin.append_ #[24, 24] 24 #[t5, a0]).run Tryz.prog w) R fun t7 w =>
 R (.returned t7) w)
theorem ZB.calls {R w a0} : ZB R w a0 → oX 179 #[a0] w R := Z.k [0,2,4]
def ZC (a0 a1 : Value) : Prop :=
 oB 240 a1 w R fun t3 w =>
 oG 240 t3 0 5 w R fun t7 w =>
 oQ true .eql 5 t7 (Z.u 65) w R fun t8 w =>
 gd t8 false (fun K => oF 240 t3 0 w R K) w fun t10 w =>
 gd t8 false (fun K => oL 5 t10 w R K) w fun t11 w =>
 gd t8 false (fun K => oQ true .eql 5 t11 (Z.u 66) w R K) w fun t12 w =>
 pick t8 (.bool true) t12 w fun t13 w =>
 join (upd (upd (upd (ini [a0, a1]) 3 t3) 4 (Z.i 0)) 5 t13) (fun j1 =>
 join (upd (upd (upd (upd (ini [a0, a1]) 3 t3) 4 (Z.i 0)) 5 t13) 14 a0) (fun j2 =>
 oQ true .eql 5 a0 (Z.u 41) w R fun t16 w =>
 cond t16 (j2 (upd (upd (upd (upd (upd (ini [a0, a1]) 3 t3) 4 (Z.i 0)) 5 t13) 14 a0) 15 t16) w)
 (oQ true .eql 5 a0 (Z.u 44) w R fun t17 w =>
 j2 (upd (upd (upd (upd (upd (upd (ini [a0, a1]) 3 t3) 4 (Z.i 0)) 5 t13) 14 a0) 15 t16) 15 t17) w)) fun e2 g2 w =>
 cond (g2 15) (gd t13 false (fun K => oF 240 t3 0 w R K) w fun t20 w =>
 gd t13 false (fun K => oL 5 t20 w R K) w fun t21 w =>
 gd t13 false (fun K => oQ true .eql 5 t21 (Z.u 192) w R K) w fun t22 w =>
 pick t13 (.bool true) t22 w fun t23 w =>
 cond t23 (R (.returned (Z.i 0)) w)
 (j1 (upd (mix [15] g2 e2) 23 t23) w))
 (oQ true .eql 5 a0 (Z.u 40) w R fun t25 w =>
 cond t25 (gd t13 false (fun K => oF 240 t3 0 w R K) w fun t28 w =>
 gd t13 false (fun K => oL 5 t28 w R K) w fun t29 w =>
 gd t13 false (fun K => oQ true .eql 5 t29 (Z.u 0) w R K) w fun t30 w =>
 gd t13 false (fun K => K t30 w) w fun t31 w =>
 gd t31 true (fun K => oF 240 t3 1 w R K) w fun t32 w =>
 gd t31 true (fun K => oL 5 t32 w R K) w fun t33 w =>
 gd t31 true (fun K => oQ true .eql 5 t33 (Z.u 0) w R K) w fun t34 w =>
 gd t13 false (fun K => pick t31 t34 (.bool false) w K) w fun t35 w =>
 pick t13 (.bool true) t35 w fun t36 w =>
 cond t36 (R (.returned (Z.i 0)) w)
 (j1 (upd (upd (mix [15] g2 e2) 24 t25) 36 t36) w))
 (j1 (upd (mix [15] g2 e2) 24 t25) w))) fun e1 g1 w =>
 R (.returned (Z.i 33)) w
theorem ZC.calls {R w a0 a1} : ZC R w a0 a1 → oX 180 #[a0, a1] w R := Z.k [0,1,3,4,5,14,15,23,24,36]
def X6 (a0 : Value) : Prop :=
 oC 103 #[a0] w R fun t4 w =>
 gd t4 false (fun K => K a0 w) w fun t6 w =>
 gd t4 false (fun K => oQ true .eql 5 t6 (Z.u 111) w R K) w fun t7 w =>
 pick t4 (.bool true) t7 w fun t8 w =>
 R (.returned t8) w
theorem X6.calls {R w a0} : X6 R w a0 → oX 181 #[a0] w R := Z.k [0,2]
def ZE (a0 a1 : Value) : Prop :=
 oB 209 a1 w R fun t3 w =>
 join (upd (upd (ini [a0, a1]) 3 t3) 4 (Z.i 0)) (fun j1 =>
 oG 209 t3 5 24 w R fun t8 w =>
 oN 24 t8 w R fun t9 w =>
 loop (upd (upd (upd (upd (upd (ini [a0, a1]) 3 t3) 4 (Z.i 0)) 8 t8) 9 t9) 10 (Z.i 0)) w fun e2 g2 w j2 =>
 oP .lss 3 (g2 10) t9 w R fun t11 w =>
 cond t11 (oI 24 t8 (g2 10) w R fun t12 w =>
 oL 5 t12 w R fun t13 w =>
 oC 199 #[a0, t13, (.bool false)] w R fun t17 w =>
 oC 198 #[a0, t17] w R fun t18 w =>
 oP .add 3 (g2 10) (Z.i 1) w R fun t19 w =>
 j2 (upd (upd (upd (mix [11,6,10] g2 e2) 11 t11) 6 t13) 10 t19) w)
 (j1 (upd (mix [11,6,10] g2 e2) 11 t11) w)) fun e1 g1 w =>
 R (.returned (Z.i 0)) w
theorem ZE.calls {R w a0 a1} : ZE R w a0 a1 → oX 182 #[a0, a1] w R := Z.k [0,1,3,4,6,8,9,10,11]
def ZF (a0 a1 : Value) : Prop :=
 oB 209 a1 w R fun t3 w =>
 oG 209 t3 2 5 w R fun t8 w =>
 oC 199 #[a0, t8, (.bool true)] w R fun t9 w =>
 oC 198 #[a0, t9] w R fun t10 w =>
 R (.returned (Z.i 0)) w
theorem ZF.calls {R w a0 a1} : ZF R w a0 a1 → oX 183 #[a0, a1] w R := Z.k [0,1,3,4]
def ZG (a0 a1 : Value) : Prop :=
 oB 209 a1 w R fun t3 w =>
 drawn w fun T w =>
 qG T w 209 t3 1 3 fun t6 =>
 aQ T w (fun w K => oP .lss 3 t6 (Z.i 0) w aO K) fun t7 =>
 aQ T w (fun w K => gd t7 false (fun K => oF 209 t3 1 w aO K) w K) fun t9 =>
 aQ T w (fun w K => gd t7 false (fun K => oL 3 t9 w aO K) w K) fun t10 =>
 aQ T w (fun w K => gd t7 false (fun K => K a0 w) w K) fun t11 =>
 aQ T w (fun w K => gd t7 false (fun K => bW t11 w K) w K) fun t12 =>
 aQ T w (fun w K => gd t7 false (fun K => oF 229 t12 0 w aO K) w K) fun t13 =>
 aQ T w (fun w K => gd t7 false (fun K => oL 33 t13 w aO K) w K) fun t14 =>
 aQ T w (fun w K => gd t7 false (fun K => oC 30 #[t14] w aO K) w K) fun t15 =>
 aQ T w (fun w K => gd t7 false (fun K => oP .geq 3 t10 t15 w aO K) w K) fun t16 =>
 aQ T w (fun w K => pick t7 (.bool true) t16 w K) fun t17 =>
 ext w fun w =>
 cond t17 (R (.returned (Z.i 32)) w)
 (oG 209 t3 1 3 w R fun t20 w =>
 bW a0 w fun t21 w =>
 oF 229 t21 1 w R fun t22 w =>
 oS 3 t22 t20 w R fun _ w =>
 R (.returned (Z.i 0)) w)
theorem ZG.calls {R w a0 a1} : ZG R w a0 a1 → oX 184 #[a0, a1] w R := Z.k [0,1,3,4,17]
def ZH (a0 a1 : Value) : Prop :=
 oB 209 a1 w R fun t3 w =>
 oD 37 #[(2, (.bool true))] w R fun t6 w =>
 oA 37 w R fun t5 w =>
 oS 37 t5 t6 w R fun _ w =>
 join (upd (upd (upd (ini [a0, a1]) 3 t3) 4 (Z.i 0)) 5 t5) (fun j1 =>
 oG 209 t3 0 5 w R fun t8 w =>
 oQ true .eql 5 t8 (Z.u 29) w R fun t9 w =>
 cond t9 (oG 209 t3 2 5 w R fun t11 w =>
 oP .and 5 t11 (Z.u 63) w R fun t12 w =>
 oF 37 t5 0 w R fun t13 w =>
 oS 5 t13 t12 w R fun _ w =>
 j1 (upd (upd (upd (upd (ini [a0, a1]) 3 t3) 4 (Z.i 0)) 5 t5) 9 t9) w)
 (oL 37 t5 w R fun t14 w =>
 oG 209 t3 4 207 w R fun t16 w =>
 oC 200 #[t14, t16] w R fun t17 w =>
 oS 37 t5 t17 w R fun _ w =>
 j1 (upd (upd (upd (upd (ini [a0, a1]) 3 t3) 4 (Z.i 0)) 5 t5) 9 t9) w)) fun e1 g1 w =>
 oL 37 t5 w R fun t19 w =>
 oC 198 #[a0, t19] w R fun t20 w =>
 R (.returned (Z.i 0)) w
theorem ZH.calls {R w a0 a1} : ZH R w a0 a1 → oX 185 #[a0, a1] w R := Z.k [0,1,3,4,5,9]
def ZI (a0 a1 : Value) : Prop :=
 oB 209 a1 w R fun t3 w =>
 drawn w fun T w =>
 aQ T w (fun w K => bW a0 w K) fun t7 =>
 qG T w 229 t7 2 37 fun t9 =>
 qG T w 209 t3 4 207 fun t11 =>
 aQ T w (fun w K => oC 200 #[t9, t11] w aO K) fun t12 =>
 aQ T w (fun w K => bW a0 w K) fun t13 =>
 aQ T w (fun w K => oF 229 t13 2 w aO K) fun t14 =>
 ext w fun w =>
 oS 37 t14 t12 w R fun _ w =>
 ext w fun w =>
 R (.returned (Z.i 0)) w
theorem ZI.calls {R w a0 a1} : ZI R w a0 a1 → oX 186 #[a0, a1] w R := Z.k [0,1,3,4]
def ZJ (a0 a1 : Value) : Prop :=
 oB 209 a1 w R fun t3 w =>
 drawn w fun T w =>
 aQ T w (fun w K => bW a0 w K) fun t7 =>
 qG T w 229 t7 0 33 fun t9 =>
 aQ T w (fun w K => bW a0 w K) fun t11 =>
 qG T w 229 t11 1 3 fun t13 =>
 aQ T w (fun w K => oC 31 #[t9, t13] w aO K) fun t14 =>
 ext w fun w =>
 yj T w (fun w K => oA 37 w R K) fun t5 w =>
 ext w fun w =>
 oS 37 t5 t14 w R fun _ w =>
 ext w fun w =>
 oG 37 t5 2 4 w R fun t16 w =>
 oU t16 w R fun t17 w =>
 cond t17 (R (.returned (Z.i 31)) w)
 (oL 37 t5 w R fun t19 w =>
 oG 209 t3 4 207 w R fun t21 w =>
 oC 200 #[t19, t21] w R fun t22 w =>
 oC 198 #[a0, t22] w R fun t23 w =>
 R (.returned (Z.i 0)) w)
theorem ZJ.calls {R w a0 a1} : ZJ R w a0 a1 → oX 187 #[a0, a1] w R := Z.k [0,1,3,4,5,17]
def ZK (a0 a1 : Value) : Prop :=
 oB 209 a1 w R fun t3 w =>
 drawn w fun T w =>
 aQ T w (fun w K => bW a0 w K) fun t6 =>
 qG T w 229 t6 0 33 fun t8 =>
 aQ T w (fun w K => bW a0 w K) fun t10 =>
 qG T w 229 t10 1 3 fun t12 =>
 ext w fun w =>
 oC 36 #[t8, t12] w R fun t13 w =>
 ext w fun w =>
 R (.returned (Z.i 0)) w
theorem ZK.calls {R w a0 a1} : ZK R w a0 a1 → oX 188 #[a0, a1] w R := Z.k [0,1,4]
def ZL (a0 a1 : Value) : Prop :=
 oB 209 a1 w R fun t3 w =>
 join (upd (ini [a0, a1]) 4 (Z.i 0)) (fun j1 =>
 bW a0 w fun t8 w =>
 oG 229 t8 3 4 w R fun t10 w =>
 cond t10 (oC 201 #[a0] w R fun t12 w =>
 j1 (upd (upd (ini [a0, a1]) 4 (Z.i 0)) 10 t10) w)
 (j1 (upd (upd (ini [a0, a1]) 4 (Z.i 0)) 10 t10) w)) fun e1 g1 w =>
 join (mix [10] g1 e1) (fun j2 =>
 bW a0 w fun t14 w =>
 oG 229 t14 1 3 w R fun t16 w =>
 loop (upd (mix [10] g1 e1) 5 t16) w fun e3 g3 w j3 =>
 bW a0 w fun t19 w =>
 oG 229 t19 0 33 w R fun t21 w =>
 oC 30 #[t21] w R fun t22 w =>
 oP .lss 3 (g3 5) t22 w R fun t23 w =>
 cond t23 (bW a0 w fun t27 w =>
 oG 229 t27 0 33 w R fun t29 w =>
 oC 31 #[t29, (g3 5)] w R fun t31 w =>
 oA 37 w R fun t6 w =>
 oS 37 t6 t31 w R fun _ w =>
 oG 37 t6 2 4 w R fun t33 w =>
 gd t33 true (fun K => oF 37 t6 0 w R K) w fun t35 w =>
 gd t33 true (fun K => oL 5 t35 w R K) w fun t36 w =>
 gd t33 true (fun K => oC 136 #[t36] w R K) w fun t37 w =>
 gd t33 true (fun K => oU t37 w R K) w fun t38 w =>
 pick t33 t38 (.bool false) w fun t39 w =>
 cond t39 (bW a0 w fun t42 w =>
 oG 229 t42 0 33 w R fun t44 w =>
 oC 112 #[t44] w R fun t45 w =>
 oC 111 #[t45, (g3 5), (Z.i 1)] w R fun t47 w =>
 bW a0 w fun t48 w =>
 oF 229 t48 1 w R fun t49 w =>
 oS 3 t49 t47 w R fun _ w =>
 R (.returned (Z.i 0)) w)
 (oP .add 3 (g3 5) (Z.i 1) w R fun t25 w =>
 j3 (upd (upd (upd (upd (mix [23,6,39,4,5] g3 e3) 23 t23) 6 t6) 39 t39) 5 t25) w))
 (j2 (upd (mix [23,6,39,4,5] g3 e3) 23 t23) w)) fun e2 g2 w =>
 bW a0 w fun t51 w =>
 oF 229 t51 1 w R fun t52 w =>
 oS 3 t52 (Z.i 0) w R fun _ w =>
 R (.returned (Z.i 0)) w
theorem ZL.calls {R w a0 a1} : ZL R w a0 a1 → oX 189 #[a0, a1] w R := Z.k [0,1,4,5,6,10,23,39]
def ZM (a0 a1 : Value) : Prop :=
 oB 209 a1 w R fun t3 w =>
 bW a0 w fun t8 w =>
 oG 229 t8 1 3 w R fun t10 w =>
 oL 209 t3 w R fun t12 w =>
 oC 184 #[a0, t12] w R fun t13 w =>
 oQ true .neq 25 t13 (Z.i 0) w R fun t15 w =>
 cond t15 (R (.returned t13) w)
 (drawn w fun T w =>
 aQ T w (fun w K => bW a0 w K) fun t18 =>
 qG T w 229 t18 0 33 fun t20 =>
 aQ T w (fun w K => bW a0 w K) fun t23 =>
 qG T w 229 t23 1 3 fun t25 =>
 qG T w 209 t3 2 5 fun t28 =>
 qG T w 209 t3 3 4 fun t30 =>
 aQ T w (fun w K => oC 199 #[a0, t28, t30] w aO K) fun t31 =>
 ext w fun w =>
 oC 157 #[t20, t10, t25, t31] w R fun t32 w =>
 ext w fun w =>
 R (.returned (Z.i 0)) w)
theorem ZM.calls {R w a0 a1} : ZM R w a0 a1 → oX 190 #[a0, a1] w R := Z.k [0,1,3,4,5,6,15]
def ZN (a0 a1 : Value) : Prop :=
 aX ((Instr.box 227 a0).run Tryz.prog w) (gJ R) fun t2 w =>
 aX ((Instr.box 209 a1).run Tryz.prog w) (gJ R) fun t3 w =>
 aX ((Instr.loadAt 227 t2).run Tryz.prog w) (gJ R) fun t8 w =>
 bW t8 w fun t9 w =>
 aX ((Instr.fieldAt 229 t9 1).run Tryz.prog w) (gJ R) fun t10 w =>
 aX ((Instr.loadAt 3 t10).run Tryz.prog w) (gJ R) fun t11 w =>
 aX ((Instr.loadAt 227 t2).run Tryz.prog w) (gJ R) fun t12 w =>
 aX ((Instr.loadAt 209 t3).run Tryz.prog w) (gJ R) fun t13 w =>
 kU Tryz.prog 184 #[t12, t13] w (gJ R) fun t14 w =>
 aX ((pU true .neq 25 t14 (Z.i 0)).run Tryz.prog w) (gJ R) fun t16 w =>
 cond t16 (lS (xM undef) w fun w => R (.returned t14) w)
 (join (upd (upd (upd (upd (upd (upd (ini [a0, a1]) 2 t2) 3 t3) 4 (Z.i 0)) 5 t11) 6 t14) 16 t16) (fun j1 =>
 drawn w fun T w =>
 aQ T w (fun w K => oL 227 t2 w aO K) fun t18 =>
 aQ T w (fun w K => bW t18 w K) fun t19 =>
 qG T w 229 t19 0 33 fun t21 =>
 aQ T w (fun w K => oC 112 #[t21] w aO K) fun t22 =>
 aQ T w (fun w K => oL 227 t2 w aO K) fun t24 =>
 aQ T w (fun w K => bW t24 w K) fun t25 =>
 qG T w 229 t25 1 3 fun t27 =>
 ext w fun w =>
 kU Tryz.prog 178 #[t22, t11, t27] w (gJ R) fun t28 w =>
 ext w fun w =>
 vM Tryz.prog t28 1 w (fun l2 xs2 w mid2 fin2 =>
 mid2 (fun w => oL 227 t2 w aO fun t30 w =>
 bW t30 w fun t31 w =>
 oF 229 t31 0 w aO fun t32 w =>
 oL 33 t32 w aO fun t33 w =>
 oC 117 #[t33, (xs2.getD 0 undef)] w aO fun t35 w =>
 cond t35 (oL 227 t2 w aO fun t36 w =>
 bW t36 w fun t37 w =>
 oF 229 t37 0 w aO fun t38 w =>
 oL 33 t38 w aO fun t39 w =>
 oD 37 #[] w aO fun t41 w =>
 oC 14 #[t39, (xs2.getD 0 undef), t41] w aO fun t42 w =>
 fin2 .normal w)
 (fin2 .normal w)) w)
 (fun D w => j1 (upd (upd (upd (upd (upd (upd (upd (upd (ini [a0, a1]) 2 t2) 3 t3) 4 (Z.i 0)) 5 t11) 6 t14) 16 t16) 28 t28) 1000000 (mkV D undef)) w)
 []) fun e1 g1 w =>
 lS (xM (g1 1000000)) w fun w => R (.returned (Z.i 0)) w)
theorem ZN.calls {R w a0 a1} : ZN R w a0 a1 → oX 191 #[a0, a1] w R := Z.k [0,1,2,3,4,5,6,7,16,28,29,35]
def ZO (a0 a1 a2 a3 : Value) : Prop :=
 oL 32 a1 w R fun t7 w =>
 oC 43 #[t7] w R fun t8 w =>
 oL 3 a2 w R fun t9 w =>
 oP .lss 3 t9 (Z.i 0) w R fun t10 w =>
 gd t10 false (fun K => oL 3 a2 w R K) w fun t12 w =>
 gd t10 false (fun K => K t8 w) w fun t13 w =>
 gd t10 false (fun K => oP .geq 3 t12 t13 w R K) w fun t14 w =>
 pick t10 (.bool true) t14 w fun t15 w =>
 gd t15 false (fun K => oL 3 a3 w R K) w fun t17 w =>
 gd t15 false (fun K => oP .lss 3 t17 (Z.i 0) w R K) w fun t18 w =>
 pick t15 (.bool true) t18 w fun t19 w =>
 gd t19 false (fun K => oL 3 a3 w R K) w fun t21 w =>
 gd t19 false (fun K => K t8 w) w fun t22 w =>
 gd t19 false (fun K => oP .geq 3 t21 t22 w R K) w fun t23 w =>
 pick t19 (.bool true) t23 w fun t24 w =>
 cond t24 (R (.returned (.tuple #[])) w)
 (oL 3 a2 w R fun t25 w =>
 loop (upd (upd (upd (ini [a0, a1, a2, a3]) 5 t8) 24 t24) 6 t25) w fun e1 g1 w j1 =>
 AY Tryz.prog a0 #[(g1 6)] w R fun t28 w =>
 cond t28 (oL 32 a1 w R fun t29 w =>
 oC 111 #[t29, (g1 6), (Z.i 1)] w R fun t31 w =>
 oL 3 a3 w R fun t33 w =>
 oQ false .eql 3 t31 t33 w R fun t34 w =>
 cond t34 (R (.returned (.tuple #[])) w)
 (j1 (upd (upd (upd (mix [28,6,34] g1 e1) 28 t28) 6 t31) 34 t34) w))
 (R (.returned (.tuple #[])) w))
theorem ZO.calls {R w a0 a1 a2 a3} : ZO R w a0 a1 a2 a3 → oX 197 #[a0, a1, a2, a3] w R := Z.k [0,1,2,3,5,6,24,28,34]
def ZP (a0 a1 : Value) : Prop :=
 oB 37 a1 w R fun t3 w =>
 drawn w fun T w =>
 aQ T w (fun w K => bW a0 w K) fun t5 =>
 qG T w 229 t5 0 33 fun t7 =>
 aQ T w (fun w K => bW a0 w K) fun t9 =>
 qG T w 229 t9 1 3 fun t11 =>
 aQ T w (fun w K => oL 37 t3 w aO K) fun t12 =>
 ext w fun w =>
 oC 14 #[t7, t11, t12] w R fun t13 w =>
 ext w fun w =>
 oC 204 #[a0] w R fun t15 w =>
 R (.returned (.tuple #[])) w
theorem ZP.calls {R w a0 a1} : ZP R w a0 a1 → oX 198 #[a0, a1] w R := Z.k [0,1,3]
def ZQ (a0 a1 a2 : Value) : Prop :=
 oA 37 w R fun t6 w =>
 drawn w fun T w =>
 aQ T w (fun w K => bW a0 w K) fun t10 =>
 aQ T w (fun w K => oF 229 t10 2 w aO K) fun t11 =>
 qG T w 37 t11 3 5 fun t13 =>
 aQ T w (fun w K => bW a0 w K) fun t15 =>
 aQ T w (fun w K => oF 229 t15 2 w aO K) fun t16 =>
 qG T w 37 t16 4 5 fun t18 =>
 aQ T w (fun w K => oD 37 #[(0, a1), (1, a2), (3, t13), (4, t18)] w aO K) fun t19 =>
 ext w fun w =>
 oS 37 t6 t19 w R fun _ w =>
 ext w fun w =>
 jd ((Instr.loadAt 37 t6).run Tryz.prog w) w fun r0 =>
 R (.returned r0) w
theorem ZQ.calls {R w a0 a1 a2} : ZQ R w a0 a1 a2 → oX 199 #[a0, a1, a2] w R := Z.k [0,1,2,6]
def ZR (a0 a1 : Value) : Prop :=
 oB 37 a0 w R fun t2 w =>
 oA 37 w R fun t4 w =>
 join (upd (upd (ini [a0, a1]) 2 t2) 4 t4) (fun j1 =>
 oN 207 a1 w R fun t8 w =>
 loop (upd (upd (upd (upd (upd (ini [a0, a1]) 2 t2) 4 t4) 7 a1) 8 t8) 9 (Z.i 0)) w fun e2 g2 w j2 =>
 oP .lss 3 (g2 9) t8 w R fun t10 w =>
 cond t10 (join (upd (mix [10,6,14,15,21,26,31,9] g2 e2) 10 t10) (fun j3 =>
 oI 207 a1 (g2 9) w R fun t11 w =>
 oL 240 t11 w R fun t12 w =>
 oA 240 w R fun t6 w =>
 oS 240 t6 t12 w R fun _ w =>
 oG 240 t6 0 5 w R fun t14 w =>
 oQ true .eql 5 t14 (Z.u 192) w R fun t16 w =>
 cond t16 (oG 240 t6 1 5 w R fun t18 w =>
 oP .and 5 t18 (Z.u 63) w R fun t19 w =>
 oF 37 t2 0 w R fun t20 w =>
 oS 5 t20 t19 w R fun _ w =>
 j3 (upd (upd (upd (upd (mix [10,6,14,15,21,26,31,9] g2 e2) 10 t10) 6 t6) 14 t14) 15 t16) w)
 (oQ true .eql 5 t14 (Z.u 65) w R fun t22 w =>
 cond t22 (oG 240 t6 1 5 w R fun t24 w =>
 oF 37 t2 3 w R fun t25 w =>
 oS 5 t25 t24 w R fun _ w =>
 j3 (upd (upd (upd (upd (upd (mix [10,6,14,15,21,26,31,9] g2 e2) 10 t10) 6 t6) 14 t14) 15 t16) 21 t22) w)
 (oQ true .eql 5 t14 (Z.u 66) w R fun t27 w =>
 cond t27 (oG 240 t6 1 5 w R fun t29 w =>
 oF 37 t2 4 w R fun t30 w =>
 oS 5 t30 t29 w R fun _ w =>
 j3 (upd (upd (upd (upd (upd (upd (mix [10,6,14,15,21,26,31,9] g2 e2) 10 t10) 6 t6) 14 t14) 15 t16) 21 t22) 26 t27) w)
 (oQ true .eql 5 t14 (Z.u 0) w R fun t32 w =>
 cond t32 (oF 37 t2 3 w R fun t33 w =>
 oS 5 t33 (Z.u 0) w R fun _ w =>
 oF 37 t2 4 w R fun t34 w =>
 oS 5 t34 (Z.u 0) w R fun _ w =>
 j3 (upd (upd (upd (upd (upd (upd (upd (mix [10,6,14,15,21,26,31,9] g2 e2) 10 t10) 6 t6) 14 t14) 15 t16) 21 t22) 26 t27) 31 t32) w)
 (j3 (upd (upd (upd (upd (upd (upd (upd (mix [10,6,14,15,21,26,31,9] g2 e2) 10 t10) 6 t6) 14 t14) 15 t16) 21 t22) 26 t27) 31 t32) w))))) fun e3 g3 w =>
 oP .add 3 (g2 9) (Z.i 1) w R fun t35 w =>
 j2 (upd (mix [6,14,15,21,26,31] g3 e3) 9 t35) w)
 (j1 (upd (mix [10,6,14,15,21,26,31,9] g2 e2) 10 t10) w)) fun e1 g1 w =>
 oL 37 t2 w R fun t36 w =>
 oS 37 t4 t36 w R fun _ w =>
 jd ((Instr.loadAt 37 t4).run Tryz.prog w) w fun r0 =>
 R (.returned r0) w
theorem ZR.calls {R w a0 a1} : ZR R w a0 a1 → oX 200 #[a0, a1] w R := Z.k [0,1,2,4,6,7,8,9,10,14,15,21,26,31]
def ZT (a0 : Value) : Prop :=
 bW a0 w fun t4 w =>
 oG 229 t4 1 3 w R fun t6 w =>
 loop (upd (ini [a0]) 2 t6) w fun e1 g1 w j1 =>
 bW a0 w fun t9 w =>
 oG 229 t9 0 33 w R fun t11 w =>
 oC 30 #[t11] w R fun t12 w =>
 oP .lss 3 (g1 2) t12 w R fun t13 w =>
 gd t13 true (fun K => K a0 w) w fun t15 w =>
 gd t13 true (fun K => bW t15 w K) w fun t16 w =>
 gd t13 true (fun K => oF 229 t16 0 w R K) w fun t17 w =>
 gd t13 true (fun K => oL 33 t17 w R K) w fun t18 w =>
 gd t13 true (fun K => K (g1 2) w) w fun t19 w =>
 gd t13 true (fun K => oC 31 #[t18, t19] w R K) w fun t20 w =>
 gd t13 true (fun K => aX ((Instr.field 37 t20 2).run Tryz.prog w) R K) w fun t21 w =>
 gd t13 true (fun K => oU t21 w R K) w fun t22 w =>
 pick t13 t22 (.bool false) w fun t23 w =>
 cond t23 (bW a0 w fun t27 w =>
 oG 229 t27 0 33 w R fun t29 w =>
 oD 37 #[] w R fun t31 w =>
 oC 14 #[t29, (g1 2), t31] w R fun t32 w =>
 oP .add 3 (g1 2) (Z.i 1) w R fun t25 w =>
 j1 (upd (upd (mix [23,2] g1 e1) 23 t23) 2 t25) w)
 (R (.returned (.tuple #[])) w)
theorem ZT.calls {R w a0} : ZT R w a0 → oX 201 #[a0] w R := Z.k [0,2,23]
def ZU (a0 : Value) : Prop :=
 drawn w fun T w =>
 aQ T w (fun w K => bW a0 w K) fun t4 =>
 qG T w 229 t4 0 33 fun t6 =>
 aQ T w (fun w K => oC 112 #[t6] w aO K) fun t7 =>
 aQ T w (fun w K => bW a0 w K) fun t9 =>
 qG T w 229 t9 1 3 fun t11 =>
 aQ T w (fun w K => oC 111 #[t7, t11, (Z.i 1)] w aO K) fun t12 =>
 aQ T w (fun w K => bW a0 w K) fun t13 =>
 aQ T w (fun w K => oF 229 t13 1 w aO K) fun t14 =>
 ext w fun w =>
 oS 3 t14 t12 w R fun _ w =>
 ext w fun w =>
 R (.returned (.tuple #[])) w
theorem ZU.calls {R w a0} : ZU R w a0 → oX 204 #[a0] w R := Z.k [0]
end
end Go.Proofs.YtjdoakbadehicaaGreatDoor
end
section
namespace Gs
def zU : List Int := [0, 1, 2, 3, 156, 9, 134, 127, 151, 141, 142, 11, 12, 13, 14, 15, 16, 17, 18, 19, 157, 133, 8, 135, 24, 25, 146, 143, 28, 29, 30, 31, 128, 129, 130, 131, 132, 10, 23, 27, 136, 137, 138, 139, 140, 5, 6, 7, 144, 145, 22, 147, 148, 149, 150, 4, 152, 153, 154, 155, 20, 21, 158, 26, 32, 160, 226, 228, 224, 225, 227, 229, 231, 241, 162, 46, 60, 40, 43, 124, 38, 233, 234, 235, 232, 237, 238, 239, 236, 223, 33, 36, 42, 41, 59, 172, 45, 47, 194, 196, 192, 193, 195, 197, 199, 209, 166, 44, 37, 95, 62, 63, 248, 201, 202, 203, 200, 205, 206, 207, 204, 96, 58, 35, 64, 39, 61, 34, 216, 97, 98, 99, 100, 101, 102, 103, 104, 105, 171, 187, 240, 253, 254, 177, 176, 106, 107, 108, 109, 110, 111, 112, 113, 114, 170, 186, 230, 184, 198, 164, 181, 126, 115, 116, 117, 118, 119, 120, 121, 122, 161, 191, 208, 221, 222, 174, 94, 163, 165, 183, 169, 167, 182, 188, 189, 190, 91, 93, 175, 168, 180, 215, 123, 65, 66, 67, 68, 69, 70, 71, 72, 73, 173, 244, 246, 242, 243, 245, 125, 74, 75, 76, 77, 78, 79, 80, 81, 82, 185, 251, 252, 249, 250, 255, 92, 247, 83, 84, 85, 86, 87, 88, 89, 90, 178, 212, 214, 210, 211, 213, 48, 49, 50, 51, 52, 53, 54, 55, 56, 57, 179, 219, 220, 217, 218, 159]
def lH (page : Int) : List (Int × Int) :=
 if page = 500 then [(0x4A, 0x5B), (0x4F, 0x21), (0x5A, 0x5D), (0x5F, 0x5E), (0xB0, 0xA2), (0xBA, 0xAC), (0xBB, 0x7C)]
 else if page = 1047 then [(0x5F, 0x5E), (0xAD, 0x5B), (0xB0, 0xAC), (0xBA, 0xDD), (0xBB, 0xA8), (0xBD, 0x5D)]
 else []
def LY (l : List (Int × Int)) (b : Int) : Int := match l.find? (fun p => p.1 == b) with | some p => p.2 | none => zU.getD b.toNat 0
def sign (page b : Int) : Int := LY (lH page) b
def FK (l : List (Int × Int)) : List Int := (List.range 256).map fun i : Nat => LY l (i : Int)
def tab (page : Int) : List Int := FK (lH page)
theorem QG : zU.length = 256 := by decide +kernel
theorem Ea (page : Int) : lH page = lH 500 ∨ lH page = lH 1047 ∨ lH page = [] := by
 unfold lH
 split
 ·exact .inl rfl
 ·split
  ·exact .inr (.inl rfl)
  ·exact .inr (.inr rfl)
def aor (l : List (Int × Int)) : Bool := (List.range l.length).all fun k => match l[k]? with
 | some p => decide (0 ≤ p.1) && decide (p.1 < 256) && decide (0 ≤ p.2) && decide (p.2 < 256) && decide ((FK (l.take k)).set p.1.toNat p.2 = FK (l.take (k + 1)))
 | none => false
theorem adP (page : Int) : (lH page).length ≤ 7 := by
 rcases Ea page with h | h | h <;> rw [h] <;> decide
theorem Yz (page : Int) : aor (lH page) = true := by
 rcases Ea page with h | h | h <;> rw [h] <;> decide +kernel
theorem RZ : zU.all (fun x => decide (0 ≤ x) && decide (x < 256)) = true := by decide +kernel
theorem abw {i : Nat} {x : Int} (h : zU[i]? = some x) : 0 ≤ x ∧ x < 256 := by
 have hl : i < zU.length := (List.getElem?_eq_some_iff.1 h).1
 have := List.all_eq_true.1 RZ x (List.mem_of_getElem? h)
 simpa using this
theorem adQ {page : Int} {k : Nat} {p : Int × Int} (h : (lH page)[k]? = some p) :
  0 ≤ p.1 ∧ p.1 < 256 ∧ 0 ≤ p.2 ∧ p.2 < 256 ∧ (FK ((lH page).take k)).set p.1.toNat p.2 = FK ((lH page).take (k + 1)) := by
 have hl : k < (lH page).length := (List.getElem?_eq_some_iff.1 h).1
 have := List.all_eq_true.1 (Yz page) k (by simpa using hl)
 rw [h] at this
 simp only [Bool.and_eq_true, decide_eq_true_eq] at this
 exact ⟨this.1.1.1.1, this.1.1.1.2, this.1.1.2, this.1.2, this.2⟩
def ndB : List Nat → Nat → Bool
 | [], _ => true
 | x :: xs, m => (match m.testBit x with | true => false | false => ndB xs (m ||| (1 <<< x)))
def afB (l : List (Int × Int)) : Bool := (FK l).all (fun x => decide (0 ≤ x) && decide (x < 256)) && ndB ((FK l).map Int.toNat) 0
theorem VE (page : Int) : afB (lH page) = true := by
 rcases Ea page with h | h | h <;> rw [h] <;> decide +kernel
theorem aby {page : Int} {x : Int} (h : x ∈ tab page) : 0 ≤ x ∧ x < 256 := by
 have := VE page
 simp only [afB, Bool.and_eq_true] at this
 simpa using List.all_eq_true.1 this.1 x h
theorem YA {page b : Int} (h0 : 0 ≤ b) (h1 : b < 256) : 0 ≤ sign page b ∧ sign page b < 256 := by
 apply aby (page := page)
 have : sign page ((b.toNat : Nat) : Int) ∈ tab page := List.mem_map.2 ⟨b.toNat, by simp; omega, rfl⟩
 rw [Int.toNat_of_nonneg h0] at this
 exact this
theorem abx {page b x : Int} (h : (lH page).find? (fun p => p.1 == b) = none) (hx : zU[b.toNat]? = some x) : x = sign page b := by
 simp [sign, LY, h, List.getD, hx]
theorem abu {page b : Int} {p : Int × Int} (h : (lH page).find? (fun p => p.1 == b) = some p) : p.2 = sign page b := by
 simp [sign, LY, h]
def value (c : Int) : Int := if 65 ≤ c then c - 55 else c - 48
end Gs
end
section
namespace Gs
structure Cell where
 b : Int
 ge : Bool
 st : Bool
 l : Int
 c : Int
deriving DecidableEq
def zc : Cell := ⟨0, false, false, 0, 0⟩
def cv (x : Cell) : List Go.Value := [.int .u8 x.b, .bool x.ge, .bool x.st, .int .u8 x.l, .int .u8 x.c]
theorem jf : Go.Sh.Enc cv 5 := ⟨fun _ => rfl, fun a u hu => by
 simp only [cv, List.mem_cons, List.mem_nil_iff, or_false] at hu
 rcases hu with rfl | rfl | rfl | rfl | rfl <;> rfl, by decide⟩
def Cw (x : Cell) : Prop := 0 ≤ x.b ∧ x.b ≤ 255
def jq (cs : List Cell) : Prop := ∀ x ∈ cs, Cw x
theorem jq.get {cs : List Cell} (h : jq cs) {i : Nat} {x : Cell} (hx : cs[i]? = some x) : 0 ≤ x.b ∧ x.b ≤ 255 := h x (List.mem_of_getElem? hx)
theorem jq.set {cs : List Cell} (h : jq cs) {x : Cell} (hx : Cw x) (i : Nat) : jq (cs.set i x) := fun y hy => by
 rcases List.mem_or_eq_of_mem_set hy with hy | rfl
 ·exact h y hy
 ·exact hx
theorem jq.rep (n : Nat) : jq (List.replicate n zc) := fun x hx => by rw [List.eq_of_mem_replicate hx]; exact ⟨by decide, by decide⟩
def aU (r c : Int) : Int := if r < 1 ∨ 43 < r ∨ c < 1 ∨ 132 < c ∨ 4096 < r * c then 0 else r * c
theorem UC {r c : Int} (h : ¬ r < 1) (h1 : ¬ 43 < r) (h2 : ¬ c < 1) (h3 : ¬ 132 < c) : 1 ≤ r * c ∧ r * c ≤ 5676 := by
 have a1 : 1 * 1 ≤ r * c := Int.mul_le_mul (by omega) (by omega) (by omega) (by omega)
 have a2 : r * c ≤ 43 * 132 := Int.mul_le_mul (by omega) (by omega) (by omega) (by omega)
 omega
theorem Js {r c : Int} (h : r < 1 ∨ 43 < r ∨ c < 1 ∨ 132 < c) : 0 = aU r c := by
 unfold aU; rw [if_pos (by omega)]
theorem aix {r c : Int} (h : ¬ r < 1) (h1 : ¬ 43 < r) (h2 : ¬ c < 1) (h3 : ¬ 132 < c) (h4 : 4096 < Go.IntKind.i64.wrap (r * c)) : 0 = aU r c := by
 have hb := UC h h1 h2 h3
 rw [Go.Sh.wrap_i64 (by omega) (by omega)] at h4
 unfold aU; rw [if_pos (by omega)]
theorem aiy {r c : Int} (h : ¬ r < 1) (h1 : ¬ 43 < r) (h2 : ¬ c < 1) (h3 : ¬ 132 < c) (h4 : ¬ 4096 < Go.IntKind.i64.wrap (r * c)) : Go.IntKind.i64.wrap (r * c) = aU r c := by
 have hb := UC h h1 h2 h3
 rw [Go.Sh.wrap_i64 (by omega) (by omega)] at h4 ⊢
 unfold aU; rw [if_neg (by omega)]
theorem zn (r c : Int) : 0 ≤ aU r c ∧ aU r c ≤ 4096 := by
 unfold aU
 split
 ·omega
 ·have := UC (r := r) (c := c) (by omega) (by omega) (by omega) (by omega)
  omega
def jo (cs : List Cell) (at' : Int) (x : Cell) : List Cell := if 0 ≤ at' ∧ at' < cs.length then cs.set at'.toNat x else cs
theorem mr (cs : List Cell) (i : Int) (x : Cell) : (jo cs i x).length = cs.length := by unfold jo; split <;> simp
theorem Jk {cs : List Cell} {i : Int} (x : Cell) (h0 : 0 ≤ i) (h1 : i < cs.length) : jo cs i x = cs.set i.toNat x := by unfold jo; rw [if_pos ⟨h0, h1⟩]
theorem KN {cs : List Cell} {i : Int} (x : Cell) (h : ¬ (0 ≤ i ∧ i < cs.length)) : jo cs i x = cs := by unfold jo; rw [if_neg h]
theorem jq.jo {cs : List Cell} (h : jq cs) {x : Cell} (hx : Cw x) (i : Int) : jq (Gs.jo cs i x) := by
 unfold Gs.jo; split
 ·exact h.set hx _
 ·exact h
def bJ (cs : List Cell) (i : Int) : Cell := if 0 ≤ i ∧ i < cs.length then cs.getD i.toNat zc else zc
theorem aiz {cs : List Cell} {i : Int} {x : Cell} (h0 : 0 ≤ i) (h : cs[i.toNat]? = some x) : bJ cs i = x := by
 have := (List.getElem?_eq_some_iff.1 h).1
 unfold bJ; rw [if_pos (by omega)]; simp [List.getD, h]
theorem xy {cs : List Cell} {i : Int} (h : ¬ (0 ≤ i ∧ i < cs.length)) : bJ cs i = zc := by unfold bJ; rw [if_neg h]
def Dx (n a b : Int) : Int := if n = 0 then 0 else (a + b) % n
theorem Jt (x : Int) {n : Int} (h : 0 < n) : -n < x.tmod n ∧ x.tmod n < n := ⟨Int.lt_tmod_of_pos x h, Int.tmod_lt_of_pos x h⟩
theorem IX (x : Int) {n : Int} (h : 0 < n) : (x.tmod n) % n = x % n := by
 rw [Int.tmod_def]
 have : x - n * x.tdiv n = x + n * (- x.tdiv n) := by rw [Int.mul_neg]; omega
 rw [this]
 simp
theorem aiA {n a b : Int} (h : 0 < n) : (((a.tmod n + b.tmod n).tmod n) + n).tmod n = Dx n a b := by
 have h1 := Jt (a.tmod n + b.tmod n) h
 unfold Dx
 rw [if_neg (by omega), Int.tmod_eq_emod_of_nonneg (by omega), Int.add_emod_right, IX _ h, Int.add_emod, IX _ h, IX _ h, ← Int.add_emod]
def nH (n i j : Int) : Nat := if i < 0 ∨ n ≤ i ∨ j < 0 ∨ n ≤ j then 0 else (if j - i ≤ 0 then j - i + n else j - i).toNat
def qH (n i j : Int) : List Int := (List.range (nH n i j)).map fun k : Nat => (i + k) % n
theorem Lm (n i j : Int) : (qH n i j).length = nH n i j := by simp [qH]
theorem XH {n i j : Int} {k : Nat} (h : k < nH n i j) : (qH n i j)[k]? = some ((i + k) % n) := by simp [qH, h]
theorem S9 {n i j : Int} {k : Nat} {x : Int} (h : (qH n i j)[k]? = some x) : 0 ≤ x ∧ x < n := by
 have hk := (List.getElem?_eq_some_iff.1 h).1
 rw [Lm] at hk
 rw [XH hk] at h
 have hx : (i + k) % n = x := by simpa using h
 unfold nH at hk
 split at hk
 ·simp at hk
 ·have h1 := Int.emod_nonneg (i + k) (by omega : n ≠ 0)
  have h2 := Int.emod_lt_of_pos (i + k) (by omega : 0 < n)
  omega
theorem aiB {r c i j : Int} : (nH (aU r c) i j : Int) ≤ aU r c ∧ aU r c ≤ 4096 := by
 have hb := zn r c
 unfold nH
 split
 ·omega
 ·split <;> omega
def sF (cs : List Cell) (l : List Int) (x : Cell) : List Cell := l.foldl (fun cs i => cs.set i.toNat x) cs
theorem SS (cs : List Cell) (l : List Int) (x : Cell) : (sF cs l x).length = cs.length := by
 induction l generalizing cs with
 | nil => rfl
 | cons i l ih => simp only [sF, List.foldl_cons] at *; rw [ih]; simp
theorem ac5 {cs : List Cell} {l : List Int} {x : Cell} {k : Nat} {i : Int} (h : l[k]? = some i) : (sF cs (l.take k) x).set i.toNat x = sF cs (l.take (k + 1)) x := by
 rw [List.take_add_one, h]; simp [sF, List.foldl_append]
theorem jq.fill {cs : List Cell} (h : jq cs) {x : Cell} (hx : Cw x) (l : List Int) : jq (sF cs l x) := by
 induction l generalizing cs with
 | nil => exact h
 | cons i l ih => exact ih (h.set hx _)
theorem Nv {n i j : Int} (h : i < 0 ∨ n ≤ i ∨ j < 0 ∨ n ≤ j) : nH n i j = 0 := by unfold nH; rw [if_pos h]
theorem UA {n i j : Int} (h : ¬ (i < 0 ∨ n ≤ i ∨ j < 0 ∨ n ≤ j)) : (nH n i j : Int) = if j - i ≤ 0 then j - i + n else j - i := by
 unfold nH; rw [if_neg h]; split <;> omega
theorem behind {n i : Int} {k : Nat} (h : (k : Int) < n) : ((i + k) % n - i) % n = k := by
 rw [Int.emod_sub_emod, show i + (k : Int) - i = k by omega]
 exact Int.emod_eq_of_lt (by omega) h
theorem akP {n i : Int} {k : Nat} (h : 0 < n) : Dx n ((i + k) % n) 1 = (i + (k + 1 : Nat)) % n := by
 unfold Dx
 rw [if_neg (by omega), Int.emod_add_emod]
 congr 1
 omega
theorem UB {n i j : Int} (h : ¬ (i < 0 ∨ n ≤ i ∨ j < 0 ∨ n ≤ j)) {k : Nat} (hk : k < nH n i j) : ((i + (k + 1 : Nat)) % n = j) ↔ k + 1 = nH n i j := by
 have hb := UA h
 have hl : (nH n i j : Int) ≤ n ∧ 0 < (nH n i j : Int) := by rw [hb]; split <;> omega
 have e1 : j = (i + (nH n i j : Nat)) % n := by
  rw [hb]
  split
  ·rw [show i + (j - i + n) = j + n by omega, Int.add_emod_right, Int.emod_eq_of_lt (by omega) (by omega)]
  ·rw [show i + (j - i) = j by omega, Int.emod_eq_of_lt (by omega) (by omega)]
 constructor
 ·intro he
  have h1 : ((i + (nH n i j : Nat)) - (i + (k + 1 : Nat))) % n = 0 := by rw [Int.sub_emod, ← e1, he]; simp
  rw [show (i + ((nH n i j : Nat) : Int)) - (i + ((k + 1 : Nat) : Int)) = (nH n i j : Nat) - (k + 1 : Nat) by omega, Int.emod_eq_of_lt (by omega) (by omega)] at h1
  omega
 ·intro he
  rw [he]; exact e1.symm
end Gs
end
section
namespace Go.Proofs.YtjdoakbadehicaaGreatDoor
open Go Go.Sh
set_option maxRecDepth 100000
theorem qF {r c : Int} {w : World} :
    oX 43 #[.agg #[Z.i r, Z.i c]] w fun e w' => e = .returned (Z.i (Gs.aU r c)) ∧ az no w w' := by
 refine F43.calls ?_
 unfold F43
 have hF : az no w w := Fr.refl _ _ _
 refine Z.x _ (fun b1 w1 e1 ah _ U1 => ?_)
 refine Z.f 0 ?_
 refine Z.l ah ?_
 refine Z.f 1 ?_
 refine Z.l ah ?_
 refine aj (aeY _ _ _ _) ?_
 refine Z.f 0 ?_
 refine Z.l ah ?_
 refine ay (lss _ _ _ _) (fun h2 => ?_) (fun h2 => ?_)
 refine bI (bI (bI (bu (bI (bI (bI (bu (bI (bI (bI (bu (bI (bI (bu (aH ?_)))))))))))))))
 replace hF := hF.go0 U1
 exact ⟨nI (Gs.Js (by omega)), hF⟩
 refine bP ?_
 refine Z.f 0 ?_
 refine bP ?_
 refine Z.l ah ?_
 refine bP ?_
 refine ay (gtr _ _ _ _) (fun h4 => ?_) (fun h4 => ?_)
 refine bG (bI (bI (bI (bu (bI (bI (bI (bu (bI (bI (bu (aH ?_))))))))))))
 replace hF := hF.go0 U1
 exact ⟨nI (Gs.Js (by omega)), hF⟩
 refine bG (bP ?_)
 refine Z.f 1 ?_
 refine bP ?_
 refine Z.l ah ?_
 refine bP ?_
 refine ay (lss _ _ _ _) (fun h6 => ?_) (fun h6 => ?_)
 refine bG (bI (bI (bI (bu (bI (bI (bu (aH ?_))))))))
 replace hF := hF.go0 U1
 exact ⟨nI (Gs.Js (by omega)), hF⟩
 refine bG (bP ?_)
 refine Z.f 1 ?_
 refine bP ?_
 refine Z.l ah ?_
 refine bP ?_
 refine ay (gtr _ _ _ _) (fun h8 => ?_) (fun h8 => ?_)
 refine bG (bI (bI (bu (aH ?_))))
 replace hF := hF.go0 U1
 exact ⟨nI (Gs.Js (by omega)), hF⟩
 refine bG (bP (bP ?_))
 refine ay (gtr _ _ _ _) (fun h10 => ?_) (fun h10 => ?_)
 refine bG (aH ?_)
 replace hF := hF.go0 U1
 exact ⟨nI (Gs.aix (by assumption) (by assumption) (by assumption) (by assumption) (by assumption)), hF⟩
 refine bG (aB ?_)
 replace hF := hF.go0 U1
 exact ⟨nI (Gs.aiy (by assumption) (by assumption) (by assumption) (by assumption) (by assumption)), hF⟩
theorem Em {r c cur : Int} {A : Option Addr} {n cp bp B0 : Nat} {cs : List Gs.Cell} {w : World} (af : Z.h w bp #[Z.i r, Z.i c, .slice A n cp, Z.i cur] 91) (ae : Own B0 w 37 5 (.slice A n cp) (rows Gs.cv cs)) (hn : n = cs.length) {i : Int} :
    oX 45 #[Z.p bp, Z.i i] w fun e w' => e = .returned (.bool (decide (0 ≤ i ∧ i < cs.length))) ∧ az no w w' := by
 refine F45.calls ?_
 unfold F45
 have hF : az no w w := Fr.refl _ _ _
 refine ay (geq _ _ _ _) (fun h1 => ?_) (fun h1 => ?_)
 refine bD (bD (bD ?_))
 refine dm ?_
 refine bD ?_
 refine Z.f 2 ?_
 refine bD ?_
 refine Z.l af ?_
 refine bD ?_
 refine aj (gm (by kernel_rfl) _ _ _) ?_
 refine bD ?_
 refine aj (lss _ _ _ _) ?_
 refine bu ?_
 exact ⟨yN (by omega), hF⟩
 refine bf (bf (bf (bf (bf (bf (bf (bG ?_)))))))
 exact ⟨KH (by omega), hF⟩
theorem eY {r c cur : Int} {A : Option Addr} {n cp bp B0 : Nat} {cs : List Gs.Cell} {w : World} (af : Z.h w bp #[Z.i r, Z.i c, .slice A n cp, Z.i cur] 91) (ae : Own B0 w 37 5 (.slice A n cp) (rows Gs.cv cs)) (hn : n = cs.length)  :
    oX 30 #[Z.p bp] w fun e w' => e = .returned (Z.i n) ∧ az no w w' := by
 refine F30.calls ?_
 unfold F30
 have hF : az no w w := Fr.refl _ _ _
 refine dm ?_
 refine Z.f 2 ?_
 refine Z.l af ?_
 refine aj (gm (by kernel_rfl) _ _ _) ?_
 exact ⟨rfl, hF⟩
theorem gz {r c cur : Int} {A : Option Addr} {n cp bp B0 : Nat} {cs : List Gs.Cell} {w : World} (af : Z.h w bp #[Z.i r, Z.i c, .slice A n cp, Z.i cur] 91) (ae : Own B0 w 37 5 (.slice A n cp) (rows Gs.cv cs)) (hn : n = cs.length)  :
    oX 24 #[Z.p bp] w fun e w' => e = .returned (Z.i cur) ∧ az no w w' := by
 refine F24.calls ?_
 unfold F24
 have hF : az no w w := Fr.refl _ _ _
 refine dm ?_
 refine Z.f 3 ?_
 refine Z.l af ?_
 exact ⟨rfl, hF⟩
theorem ku {r c cur : Int} {A : Option Addr} {n cp bp B0 : Nat} {cs : List Gs.Cell} {w : World} (af : Z.h w bp #[Z.i r, Z.i c, .slice A n cp, Z.i cur] 91) (ae : Own B0 w 37 5 (.slice A n cp) (rows Gs.cv cs)) (hn : n = cs.length)  :
    oX 112 #[Z.p bp] w fun e w' => e = .returned (.agg #[Z.i r, Z.i c]) ∧ az no w w' := by
 refine YX.calls ?_
 unfold YX
 have hF : az no w w := Fr.refl _ _ _
 refine Z.n (#[Z.i 0, Z.i 0]) (fun b1 w1 e1 ah _ U1 => ?_)
 have bU : w.heap.size ≤ b1 := by have := hF.size; omega
 refine dm ?_
 refine Z.f 0 ?_
 replace af := U1.ag af
 refine Z.b 2 _ af ?_
 refine gQ (n := 2) (by kernel_rfl) (by rfl) (by (simp [Value.cells, Value.oneCell', Gs.cv]; done)) ah (Nat.le_of_ble_eq_true rfl) (by (simp; rfl)) (fun w2 ah _ U2 => ?_)
 refine Z.a 2 ah ?_
 replace hF := (hF.go0 U1).go1 U2 bU
 exact ⟨rfl, hF⟩
theorem iI {r c cur : Int} {A : Option Addr} {n cp bp B0 : Nat} {cs : List Gs.Cell} {w : World} (af : Z.h w bp #[Z.i r, Z.i c, .slice A n cp, Z.i cur] 91) (ae : Own B0 w 37 5 (.slice A n cp) (rows Gs.cv cs)) (hn : n = cs.length) {i : Int} :
    oX 31 #[Z.p bp, Z.i i] w fun e w' => e = .returned (.agg (Gs.cv (Gs.bJ cs i)).toArray) ∧ az no w w' := by
 refine F31.calls ?_
 unfold F31
 have hF : az no w w := Fr.refl _ _ _
 refine Z.n ((Gs.cv Gs.zc).toArray) (fun b1 w1 e1 ah _ U1 => ?_)
 have bU : w.heap.size ≤ b1 := by have := hF.size; omega
 replace ae := ae.ai U1
 replace af := U1.ag af
 refine dS (Em af ae hn) (fun w2 U2 h2 => ?_) (fun w2 U2 h2 => ?_)
 simp only [Z.d, Z.c] at h2
 refine aj (lX) ?_
 refine aB ?_
 refine dm ?_
 refine Z.f 2 ?_
 replace af := U2.ag af
 refine Z.l af ?_
 replace ae := ae.ai U2
 refine pK Gs.jf (by kernel_rfl) (by kernel_rfl) ae.xC (by assumption) (by omega) (by omega) (fun x3 hx3 => ?_)
 replace ah := U2.ag ah
 refine Z.t 5 ((Gs.cv x3).toArray) (by (simp [Value.cells, Value.oneCell', Gs.cv]; done)) ah (fun w4 ah _ U4 => ?_)
 refine Z.a 5 ah ?_
 replace hF := ((hF.go0 U1).go0 U2).go1 U4 bU
 rw [Gs.aiz (by omega) hx3]; exact ⟨rfl, hF⟩
 simp only [Z.d, Z.c] at h2
 refine aj (mV) ?_
 refine aH ?_
 refine aj (bz (l := [(0, 1), (1, 1), (2, 1), (3, 1), (4, 1)]) (z := #[Z.u 0, .bool false, .bool false, Z.u 0, Z.u 0]) (cs := (Gs.cv Gs.zc)) (by kernel_rfl) (by rfl)) ?_
 replace ah := U2.ag ah
 refine Z.t 5 ((Gs.cv Gs.zc).toArray) (by (simp [Value.cells, Value.oneCell', Gs.cv]; done)) ah (fun w6 ah _ U6 => ?_)
 refine Z.a 5 ah ?_
 replace hF := ((hF.go0 U1).go0 U2).go1 U6 bU
 rw [Gs.xy (by assumption)]; exact ⟨rfl, hF⟩
theorem jG {r c cur : Int} {A : Option Addr} {n cp bp B0 : Nat} {cs : List Gs.Cell} {w : World} (af : Z.h w bp #[Z.i r, Z.i c, .slice A n cp, Z.i cur] 91) (ae : Own B0 w 37 5 (.slice A n cp) (rows Gs.cv cs)) (hn : n = cs.length) {i : Int} {x : Gs.Cell} :
    oX 14 #[Z.p bp, Z.i i, .agg (Gs.cv x).toArray] w fun e w' => ∃ v, e = .returned v ∧ v = .bool (decide (0 ≤ i ∧ i < cs.length)) ∧ Own B0 w' 37 5 (.slice A n cp) (rows Gs.cv (Gs.jo cs i x)) ∧ az (aC (.slice A n cp)) w w' := by
 refine F14.calls ?_
 unfold F14
 have hF : az (aC (.slice A n cp)) w w := Fr.refl _ _ _
 refine Z.x ((Gs.cv x).toArray) (fun b1 w1 e1 ah _ U1 => ?_)
 replace ae := ae.ai U1
 replace af := U1.ag af
 refine dS (Em af ae hn) (fun w2 U2 h2 => ?_) (fun w2 U2 h2 => ?_)
 simp only [Z.d, Z.c] at h2
 refine aj (lX) ?_
 refine aB ?_
 refine dQ (S := no) (fun w3 U3 => ?_)
 refine gK ?_
 refine Z.g 2 ?_
 replace af := U3.ag (U2.ag af)
 refine Z.m af ?_
 replace ah := U3.ag (U2.ag ah)
 refine bi (fun w' hw' => by have ah := hw'.ag ah; exact (BH (n := 5) (cs' := (Gs.cv x).toArray) (by kernel_rfl) ah (Nat.le_of_ble_eq_true rfl) (by rfl))) ?_
 replace ae := (ae.ai U2).ai U3
 obtain ⟨g4, hg4, _⟩ := ae.at (by rw [dV Gs.jf]; omega)
 subst hg4
 refine bi (fun w' hw' => (JO (n := 5) (by kernel_rfl) (by omega) (by omega))) ?_
 refine aF (fun w5 U5 => ?_)
 replace ae := ae.ai U5
 refine Qb (i := i) Gs.jf (by kernel_rfl) ae (by omega) (by omega) rfl (fun w6 ae _ U6 => ?_)
 replace hF := (((hF.go0 U1).go0 U2).go0 U3).go0 U5
 replace hF := hF.go U6 (fun i h hs => by exact hs)
 refine aF (fun w7 U7 => ?_)
 replace ae := ae.ai U7
 replace hF := hF.go0 U7
 exact ⟨_, rfl, by rw [decide_eq_true (by omega)], by rw [Gs.Jk x (by omega) (by omega)]; exact ae, hF⟩
 simp only [Z.d, Z.c] at h2
 refine aj (mV) ?_
 refine aH ?_
 replace hF := (hF.go0 U1).go0 U2
 replace ae := ae.ai U2
 exact ⟨_, rfl, by rw [decide_eq_false (by assumption)], by rw [Gs.KN x (by assumption)]; exact ae, hF⟩
theorem qR {r c cur : Int} {A : Option Addr} {n cp bp B0 : Nat} {cs : List Gs.Cell} {w : World} (af : Z.h w bp #[Z.i r, Z.i c, .slice A n cp, Z.i cur] 91) (ae : Own B0 w 37 5 (.slice A n cp) (rows Gs.cv cs)) (hn : n = cs.length) {i : Int} :
    oX 36 #[Z.p bp, Z.i i] w fun e w' => ∃ v, e = .returned v ∧ v = .bool (decide (0 ≤ i ∧ i < cs.length)) ∧ Z.h w' bp #[Z.i r, Z.i c, .slice A n cp, Z.i (if 0 ≤ i ∧ i < cs.length then i else cur)] 91 ∧ az (· = bp) w w' := by
 refine F36.calls ?_
 unfold F36
 have hF : az (· = bp) w w := Fr.refl _ _ _
 refine dS (Em af ae hn) (fun w1 U1 h1 => ?_) (fun w1 U1 h1 => ?_)
 simp only [Z.d, Z.c] at h1
 refine aj (lX) ?_
 refine aB ?_
 refine dm ?_
 refine Z.f 3 ?_
 replace af := U1.ag af
 refine Z.s af (fun w2 af _ U2 => ?_)
 replace hF := hF.go0 U1
 replace hF := hF.go U2 (fun i _ h => h)
 exact ⟨_, rfl, by rw [decide_eq_true (by omega)], by rw [if_pos (by omega)]; exact af, hF⟩
 simp only [Z.d, Z.c] at h1
 refine aj (mV) ?_
 refine aH ?_
 replace af := U1.ag af
 replace hF := hF.go0 U1
 exact ⟨_, rfl, by rw [decide_eq_false (by assumption)], by rw [if_neg (by assumption)]; exact af, hF⟩
theorem mO {r c i j : Int} {w : World} :
    oX 111 #[.agg #[Z.i r, Z.i c], Z.i i, Z.i j] w fun e w' => e = .returned (Z.i (Gs.Dx (Gs.aU r c) i j)) ∧ az no w w' := by
 refine YW.calls ?_
 unfold YW
 have hcb := Gs.zn r c
 have hF : az no w w := Fr.refl _ _ _
 refine Z.x _ (fun b1 w1 e1 ah _ U1 => ?_)
 refine Z.b 2 _ ah ?_
 refine aG (qF) (fun w2 U2 => ?_)
 refine ay (dC _ _ _ _ _) (fun h3 => ?_) (fun h3 => ?_)
 refine aH ?_
 replace hF := (hF.go0 U1).go0 U2
 exact ⟨nI (by unfold Gs.Dx; rw [if_pos (by omega)]), hF⟩
 refine aB ?_
 refine dQ (S := no) (fun w5 U5 => ?_)
 refine bi (fun w' hw' => (Sr _ (by omega) (by omega))) ?_
 refine bi (fun w' hw' => (Sr _ (by omega) (by omega))) ?_
 have m1 := Gs.Jt i (show 0 < Gs.aU r c by omega)
 have m2 := Gs.Jt j (show 0 < Gs.aU r c by omega)
 refine bi (fun w' hw' => (dF _ (by omega))) ?_
 refine bi (fun w' hw' => (Sr _ (by omega) (by omega))) ?_
 have m3 := Gs.Jt (i.tmod (Gs.aU r c) + j.tmod (Gs.aU r c)) (show 0 < Gs.aU r c by omega)
 refine bi (fun w' hw' => (dF _ (by omega))) ?_
 refine bi (fun w' hw' => (Sr _ (by omega) (by omega))) ?_
 refine aF (fun w6 U6 => ?_)
 replace hF := (((hF.go0 U1).go0 U2).go0 U5).go0 U6
 exact ⟨nI (Gs.aiA (by omega)), hF⟩
theorem ES {r c i j : Int} {w : World} :
    oX 178 #[.agg #[Z.i r, Z.i c], Z.i i, Z.i j] w fun e w' => ∃ v, e = .returned v ∧ ∃ b3 b4 b5, v = .func (.func 197) #[] #[Z.p b3, Z.p b4, Z.p b5] ∧ w.heap.size ≤ b3 ∧ w.heap.size ≤ b4 ∧ w.heap.size ≤ b5 ∧ Z.h w' b3 #[Z.i r, Z.i c] 32 ∧ Z.h w' b4 #[Z.i i] 3 ∧ Z.h w' b5 #[Z.i j] 3 ∧ az no w w' := by
 refine ZA.calls ?_
 unfold ZA
 have hF : az no w w := Fr.refl _ _ _
 refine Z.x _ (fun b1 w1 e1 ah _ U1 => ?_)
 have bU : w.heap.size ≤ b1 := by have := hF.size; omega
 refine Z.x _ (fun b2 w2 e2 ax _ U2 => ?_)
 replace hF := hF.go0 U1
 have fF : w.heap.size ≤ b2 := by have := hF.size; omega
 refine Z.x _ (fun b3 w3 e3 aS _ U3 => ?_)
 replace hF := hF.go0 U2
 have jk : w.heap.size ≤ b3 := by have := hF.size; omega
 refine aj (mkF _ _ _) ?_
 replace ah := U3.ag (U2.ag ah)
 replace ax := U3.ag ax
 replace hF := hF.go0 U3
 exact ⟨_, rfl, b1, b2, b3, rfl, bU, fF, jk, ah, ax, aS, hF⟩
theorem CE {r c i j : Int} {b3 b4 b5 : Nat} {y : Value} {J : Nat → World → Prop} {X : World → Prop} {w : World} (hcap : ∀ k w', J k w' → Z.h w' b3 #[Z.i r, Z.i c] 32 ∧ Z.h w' b4 #[Z.i i] 3 ∧ Z.h w' b5 #[Z.i j] 3) (hst : ∀ k w' w'', J k w' → az no w' w'' → J k w'') (hy : ∀ k w' x, (Gs.qH (Gs.aU r c) i j)[k]? = some x → J k w' → EK Tryz.prog y #[Z.i x] w' (J (k + 1)) X) (h0 : J 0 w) :
    oX 197 #[y, Z.p b3, Z.p b4, Z.p b5] w fun e w' => (∃ v, e = .returned v) ∧ (J (Gs.qH (Gs.aU r c) i j).length w' ∨ X w') := by
 refine ZO.calls ?_
 unfold ZO
 have hcb := Gs.zn r c
 rw [Gs.Lm]
 obtain ⟨aS, dh, bV⟩ := hcap _ _ h0
 refine Z.b 2 _ aS ?_
 refine aG (qF) (fun w1 U1 => ?_)
 replace h0 := hst _ _ _ h0 U1
 replace dh := U1.ag dh
 refine Z.l dh ?_
 refine ay (lss _ _ _ _) (fun h2 => ?_) (fun h2 => ?_)
 refine bI (bI (bI (bu (bI (bI (bu (bI (bI (bI (bu (aH ?_)))))))))))
 exact ⟨⟨_, rfl⟩, .inl (by rw [Gs.Nv (by omega)]; exact h0)⟩
 refine bP ?_
 refine Z.l dh ?_
 refine bP (bP ?_)
 refine ay (geq _ _ _ _) (fun h4 => ?_) (fun h4 => ?_)
 refine bG (bI (bI (bu (bI (bI (bI (bu (aH ?_))))))))
 exact ⟨⟨_, rfl⟩, .inl (by rw [Gs.Nv (by omega)]; exact h0)⟩
 refine bG (bP ?_)
 replace bV := U1.ag bV
 refine Z.l bV ?_
 refine bP ?_
 refine ay (lss _ _ _ _) (fun h6 => ?_) (fun h6 => ?_)
 refine bG (bI (bI (bI (bu (aH ?_)))))
 exact ⟨⟨_, rfl⟩, .inl (by rw [Gs.Nv (by omega)]; exact h0)⟩
 refine bG (bP ?_)
 refine Z.l bV ?_
 refine bP (bP ?_)
 refine ay (geq _ _ _ _) (fun h8 => ?_) (fun h8 => ?_)
 refine bG (aH ?_)
 exact ⟨⟨_, rfl⟩, .inl (by rw [Gs.Nv (by omega)]; exact h0)⟩
 refine bG (aB ?_)
 refine Z.l dh ?_
 refine dW (fun g w' => ∃ k : Nat, k < Gs.nH (Gs.aU r c) i j ∧ g 6 = Z.i ((i + k) % Gs.aU r c) ∧ J k w') (fun g w' => Gs.nH (Gs.aU r c) i j - ((RowKit.intOf (g 6) - i) % Gs.aU r c).toNat) ?_ (fun g1 wl1 hI => ?_)
 have hb := Gs.UA (n := Gs.aU r c) (i := i) (j := j) (by omega)
 exact ⟨0, by split at hb <;> omega, by show Value.int _ _ = _; rw [Int.emod_eq_of_lt (by omega) (by omega)]; simp, h0⟩
 obtain ⟨k, hk, g6, hJ⟩ := hI
 rw [g6]
 have hb1 := Gs.UA (n := Gs.aU r c) (i := i) (j := j) (by omega)
 have hkn : (k : Int) + 1 ≤ Gs.aU r c := by split at hb1 <;> omega
 refine FP (hy k _ _ (Gs.XH hk) hJ) (fun wy10 hJ2 => ?_) (fun wy10 hX => ?_)
 replace aS := U1.ag aS
 obtain ⟨aS, dh, bV⟩ := hcap _ _ hJ2
 refine aH ?_
 refine Z.b 2 _ aS ?_
 refine aG (mO) (fun oz bK => ?_)
 replace hJ2 := hst _ _ _ hJ2 bK
 rw [Gs.akP (by omega)]
 replace bV := bK.ag bV
 refine Z.l bV ?_
 refine ay (dC _ _ _ _ _) (fun h12 => ?_) (fun h12 => ?_)
 refine aH ?_
 exact ⟨⟨_, rfl⟩, .inl (by rw [← (Gs.UB (n := Gs.aU r c) (i := i) (j := j) (by omega) hk).1 (by assumption)]; exact hJ2)⟩
 refine aB ?_
 have he := Gs.UB (n := Gs.aU r c) (i := i) (j := j) (by omega) hk
 have hk1 : k + 1 < Gs.nH (Gs.aU r c) i j := by by_cases hq : k + 1 = Gs.nH (Gs.aU r c) i j; exact absurd (he.2 hq) (by assumption); omega
 refine ⟨⟨k + 1, hk1, rfl, hJ2⟩, ?_⟩
 have m1 := Gs.behind (n := Gs.aU r c) (i := i) (k := k) (by omega)
 have m2 := Gs.behind (n := Gs.aU r c) (i := i) (k := k + 1) (by split at hb1 <;> omega)
 show Gs.nH _ _ _ - ((RowKit.intOf (Value.int _ _) - i) % _).toNat < Gs.nH _ _ _ - ((RowKit.intOf (Value.int _ _) - i) % _).toNat
 simp only [RowKit.intOf]
 rw [m1, m2]
 omega
 refine aB ?_
 exact ⟨⟨_, rfl⟩, .inr hX⟩
theorem yC {r c : Int} {w : World} (hz : (Gs.aU r c) ≠ 0) :
    oX 33 #[.agg #[Z.i r, Z.i c]] w fun e w' => ∃ v, e = .returned v ∧ ∃ bp g, v = .tuple #[Z.p bp, Z.i 0] ∧ w.heap.size ≤ bp ∧ Z.h w' bp #[Z.i r, Z.i c, .slice (some ⟨g, 0, none⟩) (Gs.aU r c).toNat (Gs.aU r c).toNat, Z.i 0] 91 ∧ Own w.heap.size w' 37 5 (.slice (some ⟨g, 0, none⟩) (Gs.aU r c).toNat (Gs.aU r c).toNat) (rows Gs.cv (List.replicate (Gs.aU r c).toNat Gs.zc)) ∧ az no w w' := by
 refine F33.calls ?_
 unfold F33
 have hcb := Gs.zn r c
 have hF : az no w w := Fr.refl _ _ _
 refine Z.x _ (fun b1 w1 e1 ah _ U1 => ?_)
 have bU : w.heap.size ≤ b1 := by have := hF.size; omega
 replace hF := hF.go0 U1
 refine Z.b 2 _ ah ?_
 refine aG (qF) (fun w2 U2 => ?_)
 replace ah := U2.ag ah
 replace hF := hF.go0 U2
 refine nM (dC _ _ _ _ _) (hz) ?_
 refine aB ?_
 refine dQ (S := no) (fun w3 U3 => ?_)
 replace ah := U3.ag ah
 replace hF := hF.go0 U3
 refine bi (fun w' hw' => by have ah := hw'.ag ah; exact (BH (n := 2) (by kernel_rfl) ah (Nat.le_of_ble_eq_true rfl) (by rfl))) ?_
 refine aF (fun w4 U4 => ?_)
 replace ah := U4.ag ah
 replace hF := hF.go0 U4
 refine jC ?_
 refine ae0 (e := 37) (bytes := 5) (z := Gs.zc) Gs.jf (by kernel_rfl) (by kernel_rfl) (by omega) (by omega) (fun b5 w5 e5 yF _ U5 => ?_)
 have ik : b1 ≠ b5 := by have := au ah; omega
 have iF : w.heap.size ≤ b5 := by have := hF.size; omega
 replace yF := yF.mono (B' := w.heap.size) (by have := hF.size; omega)
 replace ah := U5.ag ah
 replace hF := hF.go0 U5
 refine ⟨U5, ?_⟩
 refine bi (fun w' hw' => (bz (l := [(0, 2), (2, 1), (3, 1)]) (z := #[Z.i 0, Z.i 0, .slice none 0 0, Z.i 0]) (by kernel_rfl) (by (simp [eP, splice, gq, Value.cells]; rfl)))) ?_
 refine aF (fun w6 U6 => ?_)
 replace yF := yF.ai U6
 replace ah := U6.ag ah
 replace hF := hF.go0 U6
 refine Z.x _ (fun b7 w7 e7 pM _ U7 => ?_)
 have KG : b1 ≠ b7 := by have := au ah; omega
 have akQ := yF.apart e7
 have xY : w.heap.size ≤ b7 := by have := hF.size; omega
 replace yF := yF.ai U7
 replace ah := U7.ag ah
 replace hF := hF.go0 U7
 refine aF (fun w8 U8 => ?_)
 replace yF := yF.ai U8
 replace ah := U8.ag ah
 replace pM := U8.ag pM
 replace hF := hF.go0 U8
 exact ⟨_, rfl, _, _, rfl, by assumption, by assumption, by assumption, hF⟩
theorem Ij {r c cur : Int} {A : Option Addr} {n cp bp B0 : Nat} {cs : List Gs.Cell} {w : World} (af : Z.h w bp #[Z.i r, Z.i c, .slice A n cp, Z.i cur] 91) (ae : Own B0 w 37 5 (.slice A n cp) (rows Gs.cv cs)) (hn : n = cs.length) {i j : Int} {x : Gs.Cell} (hN : Gs.aU r c = n) :
    oX 157 #[Z.p bp, Z.i i, Z.i j, .agg (Gs.cv x).toArray] w fun e w' => ∃ v, e = .returned v ∧ v = Z.i ((Gs.qH (Gs.aU r c) i j).length : Nat) ∧ Own B0 w' 37 5 (.slice A n cp) (rows Gs.cv (Gs.sF cs (Gs.qH (Gs.aU r c) i j) x)) ∧ az (aC (.slice A n cp)) w w' := by
 refine Zq.calls ?_
 unfold Zq
 have hF : az (aC (.slice A n cp)) w w := Fr.refl _ _ _
 refine Z.x _ (fun b1 w1 e1 ah _ U1 => ?_)
 have gV := ae.apart e1
 refine Z.x ((Gs.cv x).toArray) (fun b2 w2 e2 ax _ U2 => ?_)
 replace ae := ae.ai U1
 have dN := ae.apart e2
 refine Z.n (#[Z.i 0]) (fun b3 w3 e3 aS _ U3 => ?_)
 replace af := U2.ag (U1.ag af)
 have jO : bp ≠ b3 := by have := au af; omega
 replace ae := ae.ai U2
 have gU := ae.apart e3
 replace ah := U2.ag ah
 have lM : b1 ≠ b3 := by have := au ah; omega
 have pW : b2 ≠ b3 := by have := au ax; omega
 replace hF := (hF.go0 U1).go0 U2
 have jk : w.heap.size ≤ b3 := by have := hF.size; omega
 refine Z.s aS (fun w4 aS _ U4 => ?_)
 refine bH (fun g w' => ∃ (D2 : Nat), (g 1000000 = mkV D2 undef) ∧ (w.heap.size ≤ D2) ∧ (w'.heap[D2]? = some (.deferred (some []))) ∧ (Own B0 w' 37 5 (.slice A n cp) (rows Gs.cv (Gs.sF cs (Gs.qH (Gs.aU r c) i j) x))) ∧ (Z.h w' b3 #[Z.i ((Gs.qH (Gs.aU r c) i j).length : Nat)] 3) ∧ (az (aC (.slice A n cp)) w w')) (fun J1 hJ1 => ?_) (fun gJ1 jX hI => ?_)
 replace ah := U4.ak (U3.ag ah) lM
 refine Z.l ah ?_
 refine dm ?_
 refine Z.f 0 ?_
 replace af := U4.ak (U3.ag af) jO
 refine Z.b 2 _ af ?_
 refine aJ (ES) (fun v5 w5 D5 => ?_)
 obtain ⟨b3_17, b4_17, b5_17, rfl, g3_17, g4_17, g5_17, ny, nz, nC, U5⟩ := D5
 replace ae := (ae.ai U3).aA U4 gU
 have OY : ∀ k, aC _ k → k ≠ b3_17 := fun k hk => by have := (Own.ge ae hk).2; omega
 have Wj : b3 ≠ b3_17 := by have := au aS; omega
 have OZ : ∀ k, aC _ k → k ≠ b4_17 := fun k hk => by have := (Own.ge ae hk).2; omega
 have Wl : b3 ≠ b4_17 := by have := au aS; omega
 have O0 : ∀ k, aC _ k → k ≠ b5_17 := fun k hk => by have := (Own.ge ae hk).2; omega
 have Wn : b3 ≠ b5_17 := by have := au aS; omega
 refine tZ (by kernel_rfl) (fun w6 l2 D2 Rdy2 Bsy2 Dn2 y2 eD el aZ bg lp1 lp2 lp3 sz6 U6 hY => ?_)
 have lp2_2 := lp2
 replace af := U5.ag af
 have iE : bp ≠ l2 := by have := au af; omega
 replace ae := ae.ai U5
 have rU : ∀ k, aC _ k → k ≠ D2 := fun k hk => by have := (Own.ge ae hk).2; omega
 have fD : ∀ k, aC _ k → k ≠ l2 := fun k hk => by have := (Own.ge ae hk).2; omega
 replace ah := U5.ag ah
 have iJ : b1 ≠ l2 := by have := au ah; omega
 replace ax := U5.ag (U4.ak (U3.ag ax) pW)
 have gW : b2 ≠ l2 := by have := au ax; omega
 replace aS := U5.ag aS
 have ae1 : b3 ≠ D2 := by have := au aS; omega
 have Gz : b3 ≠ l2 := by have := au aS; omega
 have JP : b3_17 ≠ l2 := by have := au ny; omega
 have JQ : b4_17 ≠ l2 := by have := au nz; omega
 have JR : b5_17 ≠ l2 := by have := au nC; omega
 replace hF := ((hF.go0 U3).go1 U4 jk).go0 U5
 have nG : w.heap.size ≤ D2 := by have := hF.size; omega
 have jK : w.heap.size ≤ l2 := by have := hF.size; omega
 have fQ : D2 ≠ l2 := by omega
 replace ae := ae.ai U6
 replace af := U6.ag af
 replace ah := U6.ag ah
 replace ax := U6.ag ax
 replace aS := U6.ag aS
 replace ny := U6.ag ny
 replace nz := U6.ag nz
 replace nC := U6.ag nC
 replace hF := hF.go0 U6
 refine Calls.mono (CE (b3 := b3_17) (b4 := b4_17) (b5 := b5_17) (J := (fun (k : Nat) (w' : World) => (Z.h w' bp #[Z.i r, Z.i c, .slice A n cp, Z.i cur] 91) ∧ (Own B0 w' 37 5 (.slice A n cp) (rows Gs.cv (Gs.sF cs ((Gs.qH (Gs.aU r c) i j).take k) x))) ∧ (Z.h w' b1 #[Z.p bp] 33) ∧ (Z.h w' b2 ((Gs.cv x).toArray) 37) ∧ (Z.h w' b3 #[Z.i (k : Nat)] 3) ∧ (Z.h w' b3_17 #[Z.i r, Z.i c] 32) ∧ (Z.h w' b4_17 #[Z.i i] 3) ∧ (Z.h w' b5_17 #[Z.i j] 3) ∧ (w'.heap[D2]? = some (.deferred (some []))) ∧ (w'.heap[l2]? = some Rdy2) ∧ (az (aC (.slice A n cp)) w w'))) (X := (fun _ => False)) (fun _ w' hJ => by obtain ⟨af, ae, ah, ax, aS, ny, nz, nC, aZ, bg, hF⟩ := hJ; exact ⟨ny, nz, nC⟩) (fun _ w' w'' hJ U' => by obtain ⟨af, ae, ah, ax, aS, ny, nz, nC, aZ, bg, hF⟩ := hJ; exact ⟨U'.ag af, ae.ai U', U'.ag ah, U'.ag ax, U'.ag aS, U'.ag ny, U'.ag nz, U'.ag nC, U'.ag aZ, U'.ag bg, hF.go0 U'⟩) ?_ ?_) ?_
 intro k qj xk hx hI
 obtain ⟨af, ae, ah, ax, aS, ny, nz, nC, aZ, bg, hF⟩ := hI
 have bx := Gs.S9 hx
 have hk := (List.getElem?_eq_some_iff.1 hx).1
 have hle := Gs.aiB (r := r) (c := c) (i := i) (j := j)
 have hfl := Gs.SS cs ((Gs.qH (Gs.aU r c) i j).take k) x
 have hbl := Gs.Lm (Gs.aU r c) i j
 refine hY [Z.i xk] _ _ rfl bg ?_
 simp only [List.getD_cons_zero, List.getD_cons_succ]
 refine wM bg (fun w7 bg _ U7 => ?_)
 refine dQ (S := no) (fun w8 U8 => ?_)
 replace ah := U8.ag (U7.ak ah iJ)
 refine Z.m ah ?_
 refine gK ?_
 refine Z.g 2 ?_
 replace af := U8.ag (U7.ak af iE)
 refine Z.m af ?_
 replace ax := U8.ag (U7.ak ax gW)
 refine bi (fun w' hw' => by have ax := hw'.ag ax; exact (BH (n := 5) (cs' := (Gs.cv x).toArray) (by kernel_rfl) ax (Nat.le_of_ble_eq_true rfl) (by rfl))) ?_
 replace ae := (ae.aA U7 fD).ai U8
 obtain ⟨g9, hg9, _⟩ := ae.at (by rw [dV Gs.jf]; omega)
 subst hg9
 refine bi (fun w' hw' => (JO (n := 5) (by kernel_rfl) (by omega) (by omega))) ?_
 refine aF (fun w10 aT => ?_)
 replace ae := ae.ai aT
 refine Qb (i := xk) Gs.jf (by kernel_rfl) ae (by omega) (by omega) rfl (fun oz N11 _ bK => ?_)
 have aK := ae
 replace af := aT.ag af
 replace af := bK.get af (fun h => Own.aP aK af (by decide) _ h rfl)
 replace ae := N11
 replace ah := aT.ag ah
 replace ah := bK.get ah (fun h => gV _ h rfl)
 replace ax := aT.ag ax
 replace ax := bK.get ax (fun h => dN _ h rfl)
 replace aS := aT.ag (U8.ag (U7.ak aS Gz))
 replace aS := bK.get aS (fun h => gU _ h rfl)
 replace ny := aT.ag (U8.ag (U7.ak ny JP))
 replace ny := bK.get ny (fun h => OY _ h rfl)
 replace nz := aT.ag (U8.ag (U7.ak nz JQ))
 replace nz := bK.get nz (fun h => OZ _ h rfl)
 replace nC := aT.ag (U8.ag (U7.ak nC JR))
 replace nC := bK.get nC (fun h => O0 _ h rfl)
 replace aZ := aT.ag (U8.ag (U7.ak aZ fQ))
 replace aZ := bK.get aZ (fun h => rU _ h rfl)
 replace bg := aT.ag (U8.ag bg)
 replace bg := bK.get bg (fun h => fD _ h rfl)
 replace hF := ((hF.go1 U7 jK).go0 U8).go0 aT
 replace hF := hF.go bK (fun i h hs => by exact hs)
 clear aK
 refine aF (fun w12 cZ => ?_)
 replace aS := cZ.ag aS
 refine Z.l aS ?_
 refine aj (dF _ (by omega)) ?_
 refine Z.s aS (fun uM aS _ dI => ?_)
 replace bg := dI.ak (cZ.ag bg) (Ne.symm Gz)
 refine rP bg (fun sJ bg _ dw => ?_)
 replace ae := ((ae.ai cZ).aA dI gU).aA dw fD
 replace af := dw.ak (dI.ak (cZ.ag af) jO) iE
 replace ah := dw.ak (dI.ak (cZ.ag ah) lM) iJ
 replace ax := dw.ak (dI.ak (cZ.ag ax) pW) gW
 replace ny := dw.ak (dI.ak (cZ.ag ny) (Ne.symm Wj)) JP
 replace nz := dw.ak (dI.ak (cZ.ag nz) (Ne.symm Wl)) JQ
 replace nC := dw.ak (dI.ak (cZ.ag nC) (Ne.symm Wn)) JR
 replace aZ := dw.ak (dI.ak (cZ.ag aZ) (Ne.symm ae1)) fQ
 replace hF := ((hF.go0 cZ).go1 dI jk).go1 dw jK
 replace aS := dw.ak aS Gz
 exact ⟨af, (by rw [← Gs.ac5 hx]; exact ae), ah, ax, (by simpa using aS), ny, nz, nC, aZ, bg, hF⟩
 exact ⟨af, (by simpa [Gs.sF] using ae), ah, ax, aS, ny, nz, nC, aZ, bg, hF⟩
 rintro e wE2 ⟨hv, hI | hI⟩
 obtain ⟨af, ae, ah, ax, aS, ny, nz, nC, aZ, bg, hF⟩ := hI
 refine ⟨hv, .inl ⟨bg, fun uN _ dH => ?_⟩⟩
 refine hJ1 _ _ ?_
 replace ae := ae.aA dH fD
 replace aS := dH.ak aS Gz
 replace aZ := dH.ak aZ fQ
 replace hF := hF.go1 dH jK
 exact ⟨_, (by rfl), nG, aZ, (by rw [List.take_of_length_le (Nat.le_refl _)] at ae; exact ae), aS, hF⟩
 exact hI.elim
 replace ae := (ae.ai U3).aA U4 gU
 replace hF := (hF.go0 U3).go1 U4 jk
 obtain ⟨D2, g1000000, nG, aZ, ae, aS, hF⟩ := hI
 rw [g1000000]
 refine Z.l aS ?_
 refine leave1 aZ (fun uo _ bY => ?_)
 replace ae := ae.aA bY (Own.lh ae (by assumption))
 replace hF := hF.go1 bY nG
 exact ⟨_, rfl, rfl, ae, hF⟩
end Go.Proofs.YtjdoakbadehicaaGreatDoor
end
section
namespace Gs
open Go
def seen (b : Int) : Bool := decide (64 ≤ b ∧ b ≤ 254)
theorem encode_le (r : Int) : (Lib.encodeRune r).length ≤ 4 := by
 have := Lib.encodeRuneZ_length r
 simp [Lib.encodeRune]; omega
def bof (page r : Int) : Option Nat := (List.range 256).find? fun b : Nat => seen b && sign page b == r
def enc (page : Int) : List Int → Option (List Int)
 | [] => some []
 | r :: rs => match bof page r, enc page rs with | some b, some l => some ((b : Int) :: l) | _, _ => none
end Gs
end
section
namespace Gs
open Go
def uS (page : Int) (x : Cell) : Int := if x.st = true then 32 else if x.ge = true then 57344 + x.b else if 64 ≤ x.b ∧ x.b ≤ 254 then sign page x.b else 32
theorem TI {page : Int} {x : Cell} (h : x.st = true) : uS page x = 32 := by unfold uS; rw [if_pos h]
theorem Tt {page : Int} {x : Cell} (h : ¬ x.st = true) (h2 : x.ge = true) : uS page x = 57344 + x.b := by unfold uS; rw [if_neg h, if_pos h2]
theorem ad3 {page : Int} {x : Cell} (h : ¬ x.st = true) (h2 : ¬ x.ge = true) (h3 : 64 ≤ x.b ∧ x.b ≤ 254) : uS page x = sign page x.b := by unfold uS; rw [if_neg h, if_neg h2, if_pos h3]
end Gs
end
section
namespace Gs
open Go
def ahl : Bool := (List.range 256).all fun r => decide (Lib.decodeL (Lib.encodeRune (r : Int)) = (r, (Lib.encodeRune (r : Int)).length)) && decide (Lib.encodeRune (r : Int) ≠ [])
theorem Si : ahl = true := by decide +kernel
theorem small {r : Int} (h0 : 0 ≤ r) (h1 : r < 256) : Lib.decodeL (Lib.encodeRune r) = (r.toNat, (Lib.encodeRune r).length) ∧ Lib.encodeRune r ≠ [] := by
 have := List.all_eq_true.1 Si r.toNat (by simp; omega)
 rw [Int.toNat_of_nonneg h0] at this
 simpa using this
end Gs
end
section
namespace Gs
open Go
def Sgn (x : Int) : Prop := (0 ≤ x ∧ x < 256) ∨ (57344 ≤ x ∧ x < 57600)
def Nw (r : Nat) : Bool := decide ((Utf8.encode (r : Int)).data.toList = Lib.encodeRune (r : Int)) && decide (Lib.decodeL (Lib.encodeRune (r : Int)) = (r, (Lib.encodeRune (r : Int)).length)) && decide (Lib.encodeRune (r : Int) ≠ [])
theorem aiC : ((List.range 256).all Nw) = true := by decide +kernel
theorem aiD : ((List.range 256).all fun r => Nw (57344 + r)) = true := by decide +kernel
theorem ajX {x : Int} (h : Sgn x) : (Utf8.encode x).data.toList = Lib.encodeRune x ∧ Lib.decodeL (Lib.encodeRune x) = (x.toNat, (Lib.encodeRune x).length) ∧ Lib.encodeRune x ≠ [] := by
 have key : Nw x.toNat = true := by
  rcases h with h | h
  ·exact List.all_eq_true.1 aiC x.toNat (by simp; omega)
  ·have := List.all_eq_true.1 aiD (x.toNat - 57344) (by simp; omega)
   rwa [show 57344 + (x.toNat - 57344) = x.toNat by omega] at this
 have hx : ((x.toNat : Nat) : Int) = x := Int.toNat_of_nonneg (by rcases h with h | h <;> omega)
 unfold Nw at key
 rw [hx] at key
 simp only [Bool.and_eq_true, decide_eq_true_eq] at key
 exact ⟨key.1.1, key.1.2, key.2⟩
theorem ack {page : Int} {x : Cell} (h : Cw x) : Sgn (uS page x) := by
 have := YA (page := page) h.1 (by have := h.2; omega)
 obtain ⟨h0, h1⟩ := h
 unfold uS Sgn
 split
 ·omega
 ·split
  ·omega
  ·split <;> omega
theorem Am : Cw zc := ⟨by decide, by decide⟩
end Gs
end
section
namespace Go.Sh
open Go
variable {P : Program} {w : World}
theorem adz (x : Int) (j : Nat) (hj : j ≤ 62) : bits .and .i64 x ((2 ^ j - 1 : Nat) : Int) = x % (2 ^ j : Nat) := by
 have h2 : (2 : Nat) ^ j ≤ 2 ^ 62 := Nat.pow_le_pow_right (by decide) hj
 have h1 : (0 : Nat) < 2 ^ j := Nat.two_pow_pos j
 have e2 : (2 : Nat) ^ 62 = 4611686018427387904 := by decide
 rw [e2] at h2
 have key : (BitVec.ofInt IntKind.i64.bits x &&& BitVec.ofInt IntKind.i64.bits ((2 ^ j - 1 : Nat) : Int)).toNat = (x % 18446744073709551616).toNat % 2 ^ j := by
  rw [BitVec.toNat_and, BitVec.toNat_ofInt, BitVec.toNat_ofInt]
  have e64 : ((2 ^ IntKind.i64.bits : Nat) : Int) = 18446744073709551616 := by decide
  rw [e64]
  rw [Int.emod_eq_of_lt (a := ((2 ^ j - 1 : Nat) : Int)) (by omega) (by omega), Int.toNat_natCast, Nat.and_two_pow_sub_one_eq_mod]
 have hx0 : 0 ≤ x % 18446744073709551616 := Int.emod_nonneg _ (by decide)
 have hd : ((2 ^ j : Nat) : Int) ∣ 18446744073709551616 := by
  have : ((2 : Nat) ^ j) ∣ 2 ^ 64 := Nat.pow_dvd_pow 2 (by omega)
  have e : (18446744073709551616 : Int) = ((2 ^ 64 : Nat) : Int) := by decide
  rw [e]; exact Int.natCast_dvd_natCast.2 this
 show IntKind.i64.wrap (((BitVec.ofInt IntKind.i64.bits x &&& BitVec.ofInt IntKind.i64.bits ((2 ^ j - 1 : Nat) : Int)).toNat : Nat) : Int) = _
 rw [key]
 have hl : (x % 18446744073709551616).toNat % 2 ^ j < 2 ^ j := Nat.mod_lt _ h1
 rw [wrap_i64 (by omega) (by omega), Int.natCast_emod, Int.toNat_of_nonneg hx0, Int.emod_emod_of_dvd _ hd]
end Go.Sh
end
section
namespace Gs
open Go
theorem place (i : Int) {N : Nat} (h : N ≠ 0) : 0 ≤ i % 4096 % (N : Int) ∧ i % 4096 % (N : Int) < N :=
 ⟨Int.emod_nonneg _ (by omega), Int.emod_lt_of_pos _ (by omega)⟩
theorem Tj {cs : List Cell} {i k : Int} {x : Cell} (hi : 0 ≤ i ∧ i < cs.length) (hk : 0 ≤ k ∧ k < cs.length) : bJ (cs.set i.toNat x) k = if i = k then x else bJ cs k := by
 unfold bJ
 rw [List.length_set, if_pos hk]
 simp only [List.getD]
 rw [List.getElem?_set]
 by_cases h : i = k
 ·subst h; simp [show i.toNat < cs.length by omega]
 ·rw [if_neg (by omega), if_neg h, if_pos hk]
theorem JS {k f : Int} {N : Nat} (hf : 0 ≤ f ∧ f < N) (hk : 0 ≤ k ∧ k < N) : (k - f + N) % N = if k < f then k - f + N else k - f := by
 split
 ·exact Int.emod_eq_of_lt (by omega) (by omega)
 ·rw [Int.add_emod_right]; exact Int.emod_eq_of_lt (by omega) (by omega)
end Gs
end
section
namespace Gs
open Go
structure pX where
 s : Int
 l : Int
 a : Int
deriving DecidableEq
def fv (f : pX) : List Value := [.int .i64 f.s, .int .i64 f.l, .int .u8 f.a]
def zf : pX := ⟨0, 0, 0⟩
abbrev stB (cs : List Cell) (i : Int) : Bool := (bJ cs i).st
def AX (cs : List Cell) (at' step : Int) : Option Nat := (List.range cs.length).find? fun i : Nat => stB cs ((at' + i * step) % cs.length)
def kT (cs : List Cell) (at' step : Int) : Int := if 0 ≤ at' ∧ at' < cs.length then match AX cs at' step with | some i => (at' + i * step) % cs.length | none => -1 else -1
def iZ (cs : List Cell) (at' : Int) : Int := kT cs at' (-1)
def ug (cs : List Cell) (at' : Int) : Int := if 0 ≤ at' ∧ at' < cs.length then kT cs ((at' + 1) % cs.length) 1 else -1
def vK (cs : List Cell) (s : Int) : Int := if ug cs s - s - 1 < 0 then ug cs s - s - 1 + cs.length else ug cs s - s - 1
def je (cs : List Cell) (s : Int) : pX := ⟨s, vK cs s, (bJ cs s).b % 64⟩
def bQ (cs : List Cell) : List Nat := (List.range cs.length).filter fun i => stB cs i
def qx (cs : List Cell) : List Int := (bQ cs).map Int.ofNat
def allM (cs : List Cell) : List pX := (qx cs).map (je cs)
def mg (cs : List Cell) (at' : Int) : pX := if iZ cs at' < 0 then zf else je cs (iZ cs at')
def mf (cs : List Cell) (at' : Int) : Bool := decide (¬ iZ cs at' < 0)
def dZ (N : Nat) (f : pX) : List Int := if 0 ≤ f.s ∧ f.s < N then (List.range (min (max f.l 0) N).toNat).map fun k : Nat => (f.s + (k + 1 : Nat)) % N else []
def qL (a : Int) : Bool := decide (a / 32 % 2 = 1)
def kG (cs : List Cell) (at' : Int) : Bool := if iZ cs at' < 0 then decide (0 ≤ at' ∧ at' < cs.length) else decide (iZ cs at' ≠ at') && !qL (je cs (iZ cs at')).a
def yt (f : pX) : Bool := decide (0 < f.l) && !qL f.a
def sD (cs : List Cell) : Int := match (allM cs).find? yt with | some f => (f.s + 1) % cs.length | none => 0
theorem find_range {N i : Nat} {p : Nat → Bool} (hi : i < N) (hp : p i = true) (hn : ∀ j, j < i → p j = false) : (List.range N).find? p = some i := by
 rw [List.find?_range_eq_some]
 exact ⟨hp, by simpa using hi, fun j hj => by simp [hn j hj]⟩
theorem ML {N i : Nat} {p : Nat → Bool} (h : (List.range N).find? p = some i) : i < N ∧ p i = true ∧ ∀ j, j < i → p j = false := by
 rw [List.find?_range_eq_some] at h
 exact ⟨by simpa using h.2.1, h.1, fun j hj => by have := h.2.2 j hj; simpa using this⟩
theorem Dw {N : Nat} {p : Nat → Bool} (h : (List.range N).find? p = none) {j : Nat} (hj : j < N) : p j = false := by
 have := List.find?_eq_none.1 h j (List.mem_range.2 hj)
 simpa using this
def wZ (cs : List Cell) (at' step : Int) (k : Nat) : Prop := ∀ j, j < k → stB cs ((at' + j * step) % cs.length) = false
theorem WX (cs : List Cell) (at' step : Int) : wZ cs at' step 0 := fun j hj => by omega
theorem MH {cs : List Cell} {at' step : Int} {k : Nat} (h : wZ cs at' step k) (hn : stB cs ((at' + k * step) % cs.length) = false) : wZ cs at' step (k + 1) := fun j hj => by
 by_cases hq : j = k
 ·subst hq; exact hn
 ·exact h j (by omega)
theorem Jl {cs : List Cell} {at' step : Int} {k : Nat} (h0 : 0 ≤ at' ∧ at' < cs.length) (h : wZ cs at' step k) (hk : k < cs.length) (hs : stB cs ((at' + k * step) % cs.length) = true) : kT cs at' step = (at' + k * step) % cs.length := by
 unfold kT AX
 rw [if_pos h0, find_range hk hs h]
theorem PL {cs : List Cell} {at' step : Int} (h : wZ cs at' step cs.length) : kT cs at' step = -1 := by
 unfold kT AX
 have : (List.range cs.length).find? (fun i : Nat => stB cs ((at' + i * step) % cs.length)) = none := by
  rw [List.find?_eq_none]
  intro j hj
  rw [h j (List.mem_range.1 hj)]; simp
 rw [this]; split <;> rfl
theorem yY {cs : List Cell} {at' step : Int} (h : ¬ (0 ≤ at' ∧ at' < cs.length)) : kT cs at' step = -1 := by unfold kT; rw [if_neg h]
theorem WY {cs : List Cell} {at' : Int} (h : ¬ (0 ≤ at' ∧ at' < cs.length)) : ug cs at' = -1 := by unfold ug; rw [if_neg h]
theorem jF (x : Int) {N : Nat} (h : 0 < N) : 0 ≤ x % (N : Int) ∧ x % (N : Int) < N := ⟨Int.emod_nonneg _ (by omega), Int.emod_lt_of_pos _ (by omega)⟩
theorem Iq {cs : List Cell} {at' step : Int} (h0 : 0 ≤ at' ∧ at' < cs.length) (h : ¬ kT cs at' step < 0) : ∃ k : Nat, k < cs.length ∧ kT cs at' step = (at' + k * step) % cs.length ∧ stB cs (kT cs at' step) = true ∧ wZ cs at' step k := by
 unfold kT at *
 rw [if_pos h0] at *
 cases hf : AX cs at' step with
 | none => rw [hf] at h; simp at h
 | some k =>
  obtain ⟨h1, h2, h3⟩ := ML hf
  exact ⟨k, h1, rfl, h2, h3⟩
theorem He {cs : List Cell} {at' : Int} (h0 : 0 ≤ at' ∧ at' < cs.length) (h : kT cs at' 1 < 0) : ∀ i : Int, 0 ≤ i ∧ i < cs.length → stB cs i = false := by
 have hn : wZ cs at' 1 cs.length := by
  unfold kT at h
  rw [if_pos h0] at h
  cases hf : AX cs at' 1 with
  | none => intro j hj; exact Dw hf hj
  | some k => rw [hf] at h; have := (jF (at' + k * 1) (N := cs.length) (by omega)).1; simp only at h; omega
 intro i hi
 have := hn (((i - at') % cs.length).toNat) (by have := jF (i - at') (N := cs.length) (by omega); omega)
 rwa [Int.toNat_of_nonneg (jF (i - at') (N := cs.length) (by omega)).1, Int.mul_one, Int.add_comm at', Int.emod_add_emod, show i - at' + at' = i by omega, Int.emod_eq_of_lt hi.1 hi.2] at this
theorem Oj {cs : List Cell} {at' : Int} (h0 : 0 ≤ at' ∧ at' < cs.length) (h : kT cs at' (-1) < 0) : ∀ i : Int, 0 ≤ i ∧ i < cs.length → stB cs i = false := by
 have hn : wZ cs at' (-1) cs.length := by
  unfold kT at h
  rw [if_pos h0] at h
  cases hf : AX cs at' (-1) with
  | none => intro j hj; exact Dw hf hj
  | some k => rw [hf] at h; have := (jF (at' + k * (-1)) (N := cs.length) (by omega)).1; simp only at h; omega
 intro i hi
 have := hn (((at' - i) % cs.length).toNat) (by have := jF (at' - i) (N := cs.length) (by omega); omega)
 have e := Int.toNat_of_nonneg (jF (at' - i) (N := cs.length) (by omega)).1
 rw [e] at this
 have e2 : (at' + (at' - i) % (cs.length : Int) * -1) % (cs.length : Int) = i := by
  rw [Int.mul_neg, Int.mul_one, ← Int.sub_eq_add_neg, Int.sub_emod, Int.emod_emod, ← Int.sub_emod, show at' - (at' - i) = i by omega, Int.emod_eq_of_lt hi.1 hi.2]
 rwa [e2] at this
theorem len_eq {cs : List Cell} {s : Int} (h0 : 0 ≤ s ∧ s < cs.length) (hs : stB cs s = true) :
  ∃ L : Nat, L < cs.length ∧ vK cs s = L ∧ ug cs s = (s + 1 + L) % cs.length ∧ stB cs ((s + 1 + L) % cs.length) = true ∧ ∀ j : Nat, j < L → stB cs ((s + 1 + j) % cs.length) = false := by
 have hN : 0 < cs.length := by omega
 have hm := jF (s + 1) hN
 have h1 : ¬ kT cs ((s + 1) % cs.length) 1 < 0 := fun h => by
  have := He hm h s h0; rw [hs] at this; cases this
 obtain ⟨L, h2, h3, h4, h5⟩ := Iq hm h1
 rw [Int.mul_one, Int.emod_add_emod] at h3
 have ha : ug cs s = (s + 1 + L) % cs.length := by unfold ug; rw [if_pos h0, h3]
 refine ⟨L, h2, ?_, ha, by rw [← h3]; exact h4, fun j hj => ?_⟩
 ·unfold vK
  rw [ha]
  have hb := jF (s + 1 + L) hN
  by_cases hlt : s + 1 + L < cs.length
  ·rw [Int.emod_eq_of_lt (by omega) hlt, if_neg (by omega)]; omega
  ·have : (s + 1 + (L : Int)) % cs.length = s + 1 + L - cs.length := by
    rw [← Int.sub_emod_right, Int.emod_eq_of_lt (by omega) (by omega)]
   rw [this]
   by_cases hL : (L : Int) + 1 = cs.length
   ·rw [if_pos (by omega)]; omega
   ·rw [if_pos (by omega)]; omega
 ·have := h5 j hj
  rwa [Int.mul_one, Int.emod_add_emod] at this
theorem Tf {cs : List Cell} {s : Int} (h0 : 0 ≤ s ∧ s < cs.length) (hs : stB cs s = true) {j : Nat} (hj : (j : Int) ≤ vK cs s) : iZ cs ((s + j) % cs.length) = s := by
 have hN : 0 < cs.length := by omega
 obtain ⟨L, h1, h2, _, _, h5⟩ := len_eq h0 hs
 have hjL : j ≤ L := by omega
 have hm := jF (s + j) hN
 have key : ∀ i : Nat, i ≤ j → ((s + j) % (cs.length : Int) + i * (-1)) % cs.length = (s + (j - i : Nat)) % cs.length := by
  intro i hi
  rw [Int.emod_add_emod]; congr 1; omega
 unfold iZ
 have hk : (s + (j : Int)) % cs.length + (j : Nat) * (-1) = _ := rfl
 rw [Jl (k := j) hm (fun i hi => ?_) (by omega) ?_]
 ·rw [key j (Nat.le_refl _), Nat.sub_self]; simp only [Int.natCast_zero, Int.add_zero]; exact Int.emod_eq_of_lt h0.1 h0.2
 ·rw [key j (Nat.le_refl _), Nat.sub_self]; simp only [Int.natCast_zero, Int.add_zero]; rw [Int.emod_eq_of_lt h0.1 h0.2]; exact hs
 ·rw [key i (by omega)]
  have := h5 (j - i - 1) (by omega)
  rwa [show s + 1 + ((j - i - 1 : Nat) : Int) = s + (j - i : Nat) by omega] at this
theorem SV {cs : List Cell} {x : Int} (h0 : 0 ≤ x ∧ x < cs.length) (h : ¬ iZ cs x < 0) : 0 ≤ iZ cs x ∧ iZ cs x < cs.length ∧ stB cs (iZ cs x) = true ∧ ∃ j : Nat, (j : Int) ≤ vK cs (iZ cs x) ∧ x = (iZ cs x + j) % cs.length := by
 have hN : 0 < cs.length := by omega
 obtain ⟨k, h1, h2, h3, h4⟩ := Iq h0 h
 have e : iZ cs x = (x + k * (-1)) % cs.length := h2
 have hb := jF (x + k * (-1)) hN
 have hs : 0 ≤ iZ cs x ∧ iZ cs x < cs.length := by rw [e]; exact hb
 have hxk : x = (iZ cs x + k) % cs.length := by
  rw [e, Int.emod_add_emod, show x + (k : Int) * (-1) + k = x by omega, Int.emod_eq_of_lt h0.1 h0.2]
 refine ⟨hs.1, hs.2, h3, k, ?_, hxk⟩
 obtain ⟨L, q1, q2, _, q4, _⟩ := len_eq hs h3
 rw [q2]
 by_cases hq : k ≤ L
 ·omega
 ·exfalso
  have := h4 (k - L - 1) (by omega)
  have e2 : (x + ((k - L - 1 : Nat) : Int) * (-1)) % (cs.length : Int) = (iZ cs x + 1 + L) % cs.length := by
   conv => lhs; rw [hxk]
   rw [Int.emod_add_emod]; congr 1; omega
  rw [e2, q4] at this
  cases this
theorem SX {cs : List Cell} {s : Int} (h0 : 0 ≤ s ∧ s < cs.length) (hs : stB cs s = true) : iZ cs s = s := by
 obtain ⟨L, _, h2, _⟩ := len_eq h0 hs
 have := Tf h0 hs (j := 0) (by omega)
 simp only [Int.natCast_zero, Int.add_zero] at this
 rwa [Int.emod_eq_of_lt h0.1 h0.2] at this
theorem rf {cs : List Cell} {i : Nat} : i ∈ bQ cs ↔ i < cs.length ∧ stB cs i = true := by simp [bQ]
theorem Ee {cs : List Cell} {s : Int} : s ∈ qx cs ↔ (0 ≤ s ∧ s < cs.length) ∧ stB cs s = true := by
 simp only [qx, List.mem_map]
 constructor
 ·rintro ⟨i, hi, rfl⟩
  have := rf.1 hi
  exact ⟨⟨Int.natCast_nonneg i, by have := this.1; show (i : Int) < _; omega⟩, this.2⟩
 ·rintro ⟨h, hs⟩
  exact ⟨s.toNat, rf.2 ⟨by omega, by rw [Int.toNat_of_nonneg h.1]; exact hs⟩, Int.toNat_of_nonneg h.1⟩
theorem Hf (cs : List Cell) : (bQ cs).Pairwise (· < ·) := List.pairwise_lt_range.filter _
theorem abK {cs : List Cell} {i j : Nat} (hij : i < j) (hj : j < (bQ cs).length) : (bQ cs)[i]'(by omega) < (bQ cs)[j] := List.pairwise_iff_getElem.1 (Hf cs) i j (by omega) hj hij
theorem y9 (cs : List Cell) : (allM cs).length = (bQ cs).length := by simp [allM, qx]
theorem pR (cs : List Cell) : (bQ cs).length ≤ cs.length := by
 have := List.length_filter_le (fun i : Nat => stB cs i) (List.range cs.length)
 rw [List.length_range] at this; exact this
theorem rQ {n a b : Int} (h : n ≠ 0) : Dx n a b = (a + b) % n := by unfold Dx; rw [if_neg h]
theorem ahz {cs : List Cell} (at' step : Int) : -1 ≤ kT cs at' step ∧ kT cs at' step < max cs.length 1 := by
 unfold kT
 split
 ·rename_i h0
  cases hf : AX cs at' step with
  | none => simp only; omega
  | some k => have := jF (at' + k * step) (N := cs.length) (by omega); simp only; omega
 ·omega
theorem ajx {cs : List Cell} {i : Int} (h0 : 0 ≤ i ∧ i < cs.length) : -1 ≤ ug cs i ∧ ug cs i < cs.length := by
 unfold ug
 rw [if_pos h0]
 have := ahz (cs := cs) ((i + 1) % cs.length) 1
 omega
theorem abG {cs : List Cell} {i : Int} (h0 : 0 ≤ i ∧ i < cs.length) : ug cs i = kT cs ((i + 1) % cs.length) 1 := by unfold ug; rw [if_pos h0]
theorem ajy {cs : List Cell} {i : Int} (h : ug cs i - i - 1 < 0) : ug cs i - i - 1 + cs.length = vK cs i := by unfold vK; rw [if_pos h]
theorem ajz {cs : List Cell} {i : Int} (h : ¬ ug cs i - i - 1 < 0) : ug cs i - i - 1 = vK cs i := by unfold vK; rw [if_neg h]
theorem qY {cs : List Cell} (h : jq cs) (i : Int) : 0 ≤ (bJ cs i).b ∧ (bJ cs i).b ≤ 255 := by
 unfold bJ
 split
 ·rename_i hi
  rw [List.getD]
  cases hx : cs[i.toNat]? with
  | none => exact Am
  | some x => exact h x (List.mem_of_getElem? hx)
 ·exact Am
theorem WZ {cs : List Cell} {i : Int} (h : ¬ iZ cs i < 0) : 0 ≤ iZ cs i ∧ iZ cs i < cs.length := by
 by_cases h0 : 0 ≤ i ∧ i < cs.length
 ·have := SV h0 h; exact ⟨this.1, this.2.1⟩
 ·unfold iZ at h; rw [yY h0] at h; exact absurd (by omega) h
theorem ajB {cs : List Cell} {i : Int} (h : ¬ iZ cs i < 0) : Ending.returned (.tuple #[.agg (fv (je cs (iZ cs i))).toArray, .bool true]) = Ending.returned (.tuple #[.agg (fv (mg cs i)).toArray, .bool (mf cs i)]) := by
 unfold mg mf; rw [if_neg h, decide_eq_true h]
theorem ajA {cs : List Cell} {i : Int} (h : iZ cs i < 0) : Ending.returned (.tuple #[.agg (fv zf).toArray, .bool false]) = Ending.returned (.tuple #[.agg (fv (mg cs i)).toArray, .bool (mf cs i)]) := by
 unfold mg mf; rw [if_pos h, decide_eq_false (by omega)]
theorem YF {cs : List Cell} (h : jq cs) (i : Int) : 0 ≤ (mg cs i).a ∧ (mg cs i).a ≤ 255 := by
 unfold mg
 split
 ·exact ⟨by decide, by decide⟩
 ·show 0 ≤ (bJ cs _).b % 64 ∧ (bJ cs _).b % 64 ≤ 255
  omega
theorem W9 {cs : List Cell} {i : Int} (h : mf cs i = false) : kG cs i = decide (0 ≤ i ∧ i < cs.length) := by
 unfold kG; rw [if_pos (by simpa [mf] using h)]
theorem adW {cs : List Cell} {i : Int} (h : mf cs i = true) (h2 : (mg cs i).s ≠ i) : kG cs i = !decide ((mg cs i).a / 32 % 2 = 1) := by
 have h3 : ¬ iZ cs i < 0 := by simpa [mf] using h
 unfold mg at h2 ⊢
 rw [if_neg h3] at h2 ⊢
 unfold kG
 rw [if_neg h3, decide_eq_true (show iZ cs i ≠ i from h2)]
 rfl
theorem abH {cs : List Cell} {i : Int} (h : mf cs i = true) (h2 : ¬ (mg cs i).s ≠ i) : kG cs i = false := by
 have h3 : ¬ iZ cs i < 0 := by simpa [mf] using h
 unfold mg at h2
 rw [if_neg h3] at h2
 unfold kG
 rw [if_neg h3, decide_eq_false (show ¬ iZ cs i ≠ i from h2)]
 rfl
def Ec (q : Bool) (x : Cell) : Cell := ⟨if q = true then x.b - x.b % 2 + 1 else x.b - x.b % 2, x.ge, x.st, x.l, x.c⟩
def sO (q : Bool) (cs : List Cell) (i : Int) : List Cell := jo cs i (Ec q (bJ cs i))
def pI (cs : List Cell) (i : Int) : List Cell := if iZ cs i < 0 then cs else sO true cs (iZ cs i)
theorem KO (q : Bool) (cs : List Cell) (i : Int) : (sO q cs i).length = cs.length := mr _ _ _
theorem PI (cs : List Cell) (i : Int) : (pI cs i).length = cs.length := by unfold pI; split; rfl; exact KO _ _ _
theorem WT {cs : List Cell} {i : Int} (h : iZ cs i < 0) : pI cs i = cs := by unfold pI; rw [if_pos h]
theorem adX {cs : List Cell} {i : Int} (h : ¬ iZ cs i < 0) : pI cs i = sO true cs (iZ cs i) := by unfold pI; rw [if_neg h]
theorem ajD {q : Bool} {x : Cell} (h : Cw x) : Cw (Ec q x) := by
 obtain ⟨h1, h2⟩ := h
 unfold Ec Cw
 cases q <;> simp <;> omega
theorem SY {q : Bool} {cs : List Cell} (h : jq cs) (i : Int) : jq (sO q cs i) := h.jo (ajD (qY h i)) _
theorem ahs {cs : List Cell} (h : jq cs) (i : Int) : jq (pI cs i) := by unfold pI; split; exact h; exact SY h _
def yZ (cs : List Cell) (i : Nat) : Nat := ((List.range i).filter fun j : Nat => stB cs j).length
theorem amb {cs : List Cell} {i : Nat} (h : stB cs i = true) : yZ cs (i + 1) = yZ cs i + 1 := by simp [yZ, List.range_succ, List.filter_append, h]
theorem amc {cs : List Cell} {i : Nat} (h : stB cs i = false) : yZ cs (i + 1) = yZ cs i := by simp [yZ, List.range_succ, List.filter_append, h]
theorem cnt_end (cs : List Cell) : yZ cs cs.length = (bQ cs).length := rfl
theorem abI {cs : List Cell} {i : Nat} (hi : i < cs.length) (h : stB cs i = true) : (bQ cs)[yZ cs i]? = some i := by
 have e : List.range cs.length = List.range i ++ i :: List.range' (i + 1) (cs.length - i - 1) := by
  have h3 : List.range' 0 i ++ List.range' (0 + i) (cs.length - i) = List.range' 0 (i + (cs.length - i)) := List.range'_append_1
  rw [Nat.zero_add, show i + (cs.length - i) = cs.length by omega] at h3
  rw [List.range_eq_range', List.range_eq_range', ← h3]
  congr 1
  rw [show cs.length - i = (cs.length - i - 1) + 1 by omega, List.range'_succ]; rfl
 unfold bQ yZ
 rw [e, List.filter_append, List.getElem?_append_right (Nat.le_refl _), Nat.sub_self, List.filter_cons, if_pos h]
 rfl
theorem qZ {N : Nat} {f : pX} (h : 0 ≤ f.s ∧ f.s < N) : ((dZ N f).length : Int) = min (max f.l 0) N := by
 unfold dZ
 rw [if_pos h, List.length_map, List.length_range]; omega
theorem xK {N : Nat} {f : pX} (h : ¬ (0 ≤ f.s ∧ f.s < N)) : dZ N f = [] := by unfold dZ; rw [if_neg h]
theorem vH {N : Nat} {f : pX} {k : Nat} (h : k < (dZ N f).length) : (dZ N f)[k]? = some ((f.s + (k + 1 : Nat)) % N) := by
 unfold dZ at *
 split at h
 ·rename_i h0
  rw [if_pos h0]
  simp only [List.length_map, List.length_range] at h
  simp [h]
 ·simp at h
theorem FO {N : Nat} {f : pX} {k : Nat} {x : Int} (h : (dZ N f)[k]? = some x) : 0 ≤ x ∧ x < N := by
 have hk := (List.getElem?_eq_some_iff.1 h).1
 have h2 := vH hk
 rw [h] at h2
 have h3 : x = (f.s + (k + 1 : Nat)) % N := by simpa using h2
 have hN : 0 < N := by
  rcases Nat.eq_zero_or_pos N with h0 | h0
  ·subst h0; rw [xK (by omega)] at hk; simp at hk
  ·exact h0
 rw [h3]; exact jF _ hN
theorem xJ (N : Nat) (f : pX) : (dZ N f).length ≤ N := by
 by_cases h : 0 ≤ f.s ∧ f.s < N
 ·have := qZ h; omega
 ·rw [xK h]; simp
theorem nV {α : Type} {l : List α} {k : Nat} {x : α} (h : l[k]? = some x) : l.take k ++ [x] = l.take (k + 1) := by rw [List.take_add_one, h]; rfl
theorem EN {cs : List Cell} {k s : Nat} (h : (bQ cs)[k]? = some s) : (allM cs)[k]? = some (je cs s) := by simp [allM, qx, h]
theorem SN {cs : List Cell} (h : jq cs) (i : Int) : 0 ≤ (je cs i).a ∧ (je cs i).a ≤ 255 := by
 show 0 ≤ (bJ cs _).b % 64 ∧ (bJ cs _).b % 64 ≤ 255
 omega
def FV (cs : List Cell) (k : Nat) : Prop := ∀ g ∈ (allM cs).take k, yt g = false
theorem ahy (cs : List Cell) : FV cs 0 := fun g hg => by simp at hg
theorem MK {cs : List Cell} {k s : Nat} (h : FV cs k) (hx : (bQ cs)[k]? = some s) (hf : yt (je cs s) = false) : FV cs (k + 1) := by
 intro g hg
 rw [← nV (EN hx)] at hg
 rcases List.mem_append.1 hg with hg | hg
 ·exact h g hg
 ·simp at hg; subst hg; exact hf
theorem Dt {α : Type} {p : α → Bool} : ∀ {l : List α} {k : Nat} {x : α}, l[k]? = some x → (∀ y ∈ l.take k, p y = false) → p x = true → l.find? p = some x
 | [], k, x, h, _, _ => by simp at h
 | a :: l, 0, x, h, _, hp => by simp at h; subst h; simp [hp]
 | a :: l, k + 1, x, h, hn, hp => by
  have ha := hn a (by simp)
  rw [List.find?_cons, ha]
  exact Dt (by simpa using h) (fun y hy => hn y (by simp [hy])) hp
theorem ahv {cs : List Cell} {k s : Nat} (h : FV cs k) (hx : (bQ cs)[k]? = some s) (hf : yt (je cs s) = true) : ((s : Int) + 1) % cs.length = sD cs := by
 unfold sD
 rw [Dt (EN hx) h hf]; rfl
theorem abJ {cs : List Cell} (h : FV cs (bQ cs).length) : sD cs = 0 := by
 unfold sD
 have : (allM cs).find? yt = none := by
  rw [List.find?_eq_none]
  intro g hg
  rw [h g (by rw [List.take_of_length_le (by rw [y9]; exact Nat.le_refl _)]; exact hg)]; simp
 rw [this]
theorem ahw {f : pX} (h : 0 < f.l) (h2 : ¬ f.a / 32 % 2 = 1) : yt f = true := by unfold yt qL; simp [h, h2]
theorem ahx {f : pX} (h : ¬ 0 < f.l) : yt f = false := by unfold yt; simp [h]
theorem ahu {f : pX} (h2 : f.a / 32 % 2 = 1) : yt f = false := by unfold yt qL; simp [h2]
def Ef (cs : List Cell) (s : Nat) : Bool := decide ((bJ cs s).b % 2 = 1)
def sN (cs : List Cell) (l : List Nat) : List Cell := l.foldl (fun c s => if Ef cs s = true then sO false c s else c) cs
theorem Ti {cs : List Cell} {l : List Nat} {k s : Nat} (h : l[k]? = some s) : sN cs (l.take (k + 1)) = if Ef cs s = true then sO false (sN cs (l.take k)) s else sN cs (l.take k) := by
 rw [← nV h]; unfold sN; rw [List.foldl_append]; rfl
theorem Ov {P : List Cell → Prop} {cs : List Cell} (h0 : P cs) (hs : ∀ c s, P c → P (sO false c s)) : ∀ l : List Nat, P (sN cs l) := by
 intro l
 suffices h : ∀ (l : List Nat) (c : List Cell), P c → P (l.foldl (fun c s => if Ef cs s = true then sO false c s else c) c) from h l cs h0
 intro l
 induction l with
 | nil => intro c h; exact h
 | cons a l ih =>
  intro c h
  rw [List.foldl_cons]
  split
  ·exact ih _ (hs c a h)
  ·exact ih _ h
theorem Jj (cs : List Cell) (l : List Nat) : cs.length = (sN cs l).length := (Ov (P := fun c => c.length = cs.length) rfl (fun c s h => by rw [KO]; exact h) l).symm
theorem QY {cs : List Cell} (h : jq cs) (l : List Nat) : jq (sN cs l) := Ov h (fun c s h => SY h s) l
theorem Om {q : Bool} {cs : List Cell} {i j : Int} : bJ (sO q cs i) j = if i = j ∧ 0 ≤ i ∧ i < cs.length then Ec q (bJ cs i) else bJ cs j := by
 unfold sO
 by_cases hi : 0 ≤ i ∧ i < cs.length
 ·by_cases hj : 0 ≤ j ∧ j < cs.length
  ·rw [Jk _ hi.1 hi.2, Tj hi hj]
   by_cases h : i = j
   ·rw [if_pos h, if_pos ⟨h, hi⟩]
   ·rw [if_neg h, if_neg (fun h2 => h h2.1)]
  ·rw [xy (by rw [mr]; exact hj), xy hj, if_neg]
   rintro ⟨rfl, _⟩
   exact hj hi
 ·rw [KN _ hi, if_neg]
  rintro ⟨_, h2⟩
  exact hi h2
theorem abE {q : Bool} {cs : List Cell} {i j : Int} : stB (sO q cs i) j = stB cs j := by
 show (bJ _ _).st = (bJ _ _).st
 rw [Om]
 split
 ·rename_i h; rw [← h.1]; rfl
 ·rfl
theorem abL (cs : List Cell) (l : List Nat) (i : Int) : stB (sN cs l) i = stB cs i := Ov (P := fun c => stB c i = stB cs i) rfl (fun c s h => by rw [abE]; exact h) l
theorem ahA {cs : List Cell} {s : Nat} : ∀ {l : List Nat}, s ∉ l → bJ (sN cs l) s = bJ cs s := by
 intro l hl
 suffices h : ∀ (l : List Nat) (c : List Cell), s ∉ l → bJ (l.foldl (fun c s => if Ef cs s = true then sO false c s else c) c) s = bJ c s from h l cs hl
 intro l
 induction l with
 | nil => intro c _; rfl
 | cons a l ih =>
  intro c h
  rw [List.foldl_cons, ih _ (fun hm => h (by simp [hm]))]
  split
  ·rw [Om, if_neg]
   rintro ⟨h2, _⟩
   exact h (by simp; omega)
  ·rfl
theorem JJ {cs : List Cell} {k s : Nat} (hx : (bQ cs)[k]? = some s) : s ∉ (bQ cs).take k := by
 intro hm
 obtain ⟨j, hj, he⟩ := List.getElem_of_mem hm
 obtain ⟨hk, hx2⟩ := List.getElem?_eq_some_iff.1 hx
 rw [List.length_take] at hj
 have := abK (cs := cs) (i := j) (j := k) (by omega) hk
 rw [List.getElem_take] at he
 omega
theorem Jm {cs : List Cell} {k s : Nat} (hx : (bQ cs)[k]? = some s) : (je (sN cs ((bQ cs).take k)) s).a % 2 = 1 ↔ Ef cs s = true := by
 show (bJ _ _).b % 64 % 2 = 1 ↔ _
 rw [ahA (JJ hx)]
 unfold Ef
 rw [decide_eq_true_eq]; omega
def Cc (cs : List Cell) (k : Nat) : Nat := ((bQ cs).take k).countP (Ef cs)
theorem ajE {cs : List Cell} {k s : Nat} (hx : (bQ cs)[k]? = some s) (h : Ef cs s = true) : Cc cs (k + 1) = Cc cs k + 1 := by
 unfold Cc; rw [← nV hx, List.countP_append]; simp [h]
theorem ajF {cs : List Cell} {k s : Nat} (hx : (bQ cs)[k]? = some s) (h : ¬ Ef cs s = true) : Cc cs (k + 1) = Cc cs k := by
 unfold Cc; rw [← nV hx, List.countP_append]; simp [h]
theorem ahB (cs : List Cell) (k : Nat) : Cc cs k ≤ cs.length := by
 have h1 := List.countP_le_length (p := Ef cs) (l := (bQ cs).take k)
 have h2 := pR cs
 rw [List.length_take] at h1
 unfold Cc; omega
end Gs
end
section
namespace Go.Sh
open Go
variable {P : Program} {w : World}
theorem Ku (t : TypeId) (k : IntKind) (x y : Int) : (binOp .and t (.int k x) (.int k y)).run P w = .ok (.int k (bits .and k x y)) w := by cases k <;> rfl
theorem orB (t : TypeId) (k : IntKind) (x y : Int) : (binOp .or t (.int k x) (.int k y)).run P w = .ok (.int k (bits .or k x y)) w := by cases k <;> rfl
theorem WF (t : TypeId) (k : IntKind) (x y : Int) : (binOp .andNot t (.int k x) (.int k y)).run P w = .ok (.int k (bits .andNot k x y)) w := by cases k <;> rfl
theorem wJ {p : Int → Prop} (h : ∀ n : Fin 256, p (n.val : Int)) {x : Int} (hx : 0 ≤ x ∧ x ≤ 255) : p x := by
 have := h ⟨x.toNat, by omega⟩
 simpa [Int.toNat_of_nonneg hx.1] using this
theorem abe {x : Int} (hx : 0 ≤ x ∧ x ≤ 255) : bits .and .u8 x 32 = x / 32 % 2 * 32 := wJ (p := fun x => bits .and .u8 x 32 = x / 32 % 2 * 32) (by decide +kernel) hx
theorem abf {x : Int} (hx : 0 ≤ x ∧ x ≤ 255) : bits .and .u8 x 16 = x / 16 % 2 * 16 := wJ (p := fun x => bits .and .u8 x 16 = x / 16 % 2 * 16) (by decide +kernel) hx
theorem adA {x : Int} (hx : 0 ≤ x ∧ x ≤ 255) : bits .and .u8 x 1 = x % 2 := wJ (p := fun x => bits .and .u8 x 1 = x % 2) (by decide +kernel) hx
theorem abg {x : Int} (hx : 0 ≤ x ∧ x ≤ 255) : bits .and .u8 x 63 = x % 64 := wJ (p := fun x => bits .and .u8 x 63 = x % 64) (by decide +kernel) hx
theorem ag4 {x : Int} (hx : 0 ≤ x ∧ x ≤ 255) : bits .or .u8 x 1 = x - x % 2 + 1 := wJ (p := fun x => bits .or .u8 x 1 = x - x % 2 + 1) (by decide +kernel) hx
theorem Vp {x : Int} (hx : 0 ≤ x ∧ x ≤ 255) : bits .andNot .u8 x 1 = x - x % 2 := wJ (p := fun x => bits .andNot .u8 x 1 = x - x % 2) (by decide +kernel) hx
theorem ag5 (t : TypeId) {x : Int} (hx : 0 ≤ x ∧ x ≤ 255) : (binOp .and t (.int .u8 x) (.int .u8 32)).run P w = .ok (.int .u8 (x / 32 % 2 * 32)) w := by rw [Ku, abe hx]
theorem ag6 (t : TypeId) {x : Int} (hx : 0 ≤ x ∧ x ≤ 255) : (binOp .and t (.int .u8 x) (.int .u8 16)).run P w = .ok (.int .u8 (x / 16 % 2 * 16)) w := by rw [Ku, abf hx]
theorem Q8 (t : TypeId) {x : Int} (hx : 0 ≤ x ∧ x ≤ 255) : (binOp .and t (.int .u8 x) (.int .u8 1)).run P w = .ok (.int .u8 (x % 2)) w := by rw [Ku, adA hx]
theorem EC (t : TypeId) {x : Int} (hx : 0 ≤ x ∧ x ≤ 255) : (binOp .and t (.int .u8 x) (.int .u8 63)).run P w = .ok (.int .u8 (x % 64)) w := by rw [Ku, abg hx]
theorem al6 (t : TypeId) {x : Int} (hx : 0 ≤ x ∧ x ≤ 255) : (binOp .or t (.int .u8 x) (.int .u8 1)).run P w = .ok (.int .u8 (x - x % 2 + 1)) w := by rw [orB, ag4 hx]
theorem abh (t : TypeId) {x : Int} (hx : 0 ≤ x ∧ x ≤ 255) : (binOp .andNot t (.int .u8 x) (.int .u8 1)).run P w = .ok (.int .u8 (x - x % 2)) w := by rw [WF, Vp hx]
theorem aof (t : TypeId) {x y : Int} (hx : 0 ≤ x) (hx2 : x ≤ 9223372036854775807) (h : 0 < y) : (binOp .quo t (.int .i64 x) (.int .i64 y)).run P w = .ok (.int .i64 (x / y)) w := by
 have hy : ¬ y = 0 := by omega
 have h1 := Int.ediv_nonneg hx (show 0 ≤ y by omega)
 have h2 := Int.ediv_le_self y hx
 simp [go_sem, binOp, Op.intArith, hy]
 rw [Int.tdiv_eq_ediv_of_nonneg hx, wrap_i64 (by omega) (by omega)]
theorem ag7 {C : World → Prop} {A : (World → World → Prop) → World → Prop} (hC : ∀ a b, C a → az no a b → C b) (h : ∀ w1, az no w w1 → A (fun a b => C a → C b) w1) : drawn w A :=
 ⟨_, ⟨fun _ h => h, fun h k hc => k (h hc), fun he hc => hC _ _ hc (Fr.jA he)⟩, h _ (az.drawn w)⟩
theorem Own.DX {B : Nat} {w : World} {e size : Nat} {v : Value} {xs : List Value} (h : Own B w e size v xs) : v.cells = #[v] ∧ v.oneCell' = true := by
 obtain ⟨n, _, h⟩ := h
 rcases h with ⟨rfl, _⟩ | ⟨g, cap, cur, rfl, _⟩ <;> exact ⟨rfl, rfl⟩
theorem X0 {w : World} {b b' : Nat} {cs : Array Value} {T : TypeId} {fr : Nat × Nat} {d : Option (List Deferred)} (h' : w.heap[b']? = some (.deferred d)) (h : w.heap[b]? = some (.cells cs T fr)) : b' ≠ b := by
 intro e; subst e; rw [h] at h'; cases h'
theorem Vq {t f off : Nat} {a : Addr} (h : Kv P t f = some off) : (Instr.fieldAt t (.pointer (some a)) f).run P w = .ok (.pointer (some (a.add off))) w := by
 unfold Kv at h
 split at h
 ·rename_i fs hu
  split at h
  ·rename_i x hx
   split at h
   ·rename_i m hm
    cases h
    unfold aU at hm
    cases hi : P.info? x.type with
    | none => simp [hi] at hm
    | some inf =>
     simp only [hi, Option.map_some, Option.some.injEq] at hm
     simp [Instr.fieldAt, Instr.sureAddr, Sem.run_bind, Result.andThen, run_underlying hu, fieldPlace, sizeOf, typeInfo, hi, hm, hx]
   ·cases h
  ·cases h
 ·cases h
section
variable {α : Type} {f : α → List Value} {m : Nat} {l : List α} {R : Ending → World → Prop} {K : Value → World → Prop}
theorem adB (hf : Enc f m) {A : Addr} {len : Nat} {i off : Nat} {x : α} {v : Value} (hc : ∀ j, j < (rows f l).length → w.cell? (A.add j) = (rows f l)[j]?) (hx : l[i]? = some x) (ho : off < m) (hv : (f x)[off]? = some v) : w.cell? ((A.add (i * m)).add off) = some v := by
 obtain ⟨hi, _⟩ := List.getElem?_eq_some_iff.1 hx
 have him : i * m + m ≤ (rows f l).length := by
  rw [dV hf]
  have : (i + 1) * m ≤ l.length * m := Nat.mul_le_mul_right m hi
  rwa [Nat.add_mul, Nat.one_mul] at this
 rw [add_add, hc _ (by omega)]
 have h := NZ hf hx
 rw [← h, List.getElem?_take, if_pos ho, List.getElem?_drop] at hv
 exact hv
theorem iH {T' : World → World → Prop} {Q : Value → Prop} {t T fi U off len cap : Nat} {k : IntKind} {i : Int} {A : Option Addr} (hf : Enc f m) (vf : α → Value) (hvf : ∀ x, (f x)[off]? = some (vf x)) (ho : off < m) (hn : yJ P t = some m) (hfo : Kv P T fi = some off) (hU : vW P U = true) (hr : ∀ w', T' w w' → Rd w' A (rows f l)) (hw : T' w w) (hl : len = l.length) (h0 : 0 ≤ i) (h1 : i < len)
  (h : ∀ x, l[i.toNat]? = some x → Q (vf x)) : aQ T' w (fun w K => aX ((Instr.indexAt t (.slice A len cap) (.int k i)).run P w) aO K) fun a => aQ T' w (fun w K => aX ((Instr.fieldAt T a fi).run P w) aO K) fun b => aQ T' w (fun w K => aX ((Instr.loadAt U b).run P w) aO K) Q := by
 have hi : i.toNat < l.length := by omega
 have hx : l[i.toNat]? = some l[i.toNat] := List.getElem?_eq_getElem hi
 have hpos : ¬ rows f l = [] := fun he => by have := dV hf l; rw [he] at this; have hp := Nat.mul_pos (show 0 < l.length by omega) hf.pos; simp at this; omega
 rcases hr w hw with he | ⟨a, rfl, _⟩
 ·exact absurd he hpos
 ·refine bi (fun w' _ => Fp (n := m) hn h0 h1) (bi (fun w' _ => Vq hfo) (bi (fun w' hw' => Dj hU ?_) (h _ hx)))
  rcases hr w' hw' with he | ⟨a', ha, hc⟩
  ·exact absurd he hpos
  ·cases ha
   exact adB (len := len) hf hc hx ho (hvf _)
end
end Go.Sh
end
section
namespace Go.Proofs.YtjdoakbadehicaaGreatDoor
open Go Go.Sh
set_option maxRecDepth 100000
theorem RV {w : World} : oX 80 #[] w fun e w' => e = .returned (.agg (vals .u8 Gs.zU).toArray) ∧ az no w w' := by
  refine F80.calls ?_
  unfold F80
  refine uz (cs := (vals .u8 (List.replicate 256 0)).toArray) (by kernel_rfl) fun b w1 e1 h1 _ U1 => ?_
  refine aj (tC (n := 256) (m := 1) (z := (vals .u8 (List.replicate 256 0)).toArray) (cs := vals .u8 Gs.zU) (by kernel_rfl) (by kernel_rfl) (by kernel_rfl)) ?_
  refine Oe (n := 256) (by kernel_rfl) (by kernel_rfl) (by kernel_rfl) vz h1 fun w2 h2 _ U2 => ?_
  refine yS (ama (n := 256) (by kernel_rfl) h2 (by kernel_rfl)) ?_
  exact ⟨rfl, U1.go1 U2 (by omega)⟩
theorem Og {b : Int} {w : World} :
    oX 57 #[Z.u b] w fun e w' => e = .returned (.bool (decide (64 ≤ b ∧ b ≤ 254))) ∧ az no w w' := by
 refine F57.calls ?_
 unfold F57
 have hF : az no w w := Fr.refl _ _ _
 refine ay (geq _ _ _ _) (fun h1 => ?_) (fun h1 => ?_)
 refine bD (bD ?_)
 refine aj (leq _ _ _ _) ?_
 refine bu ?_
 exact ⟨yN (by omega), hF⟩
 refine bf (bf (bG ?_))
 exact ⟨KH (by omega), hF⟩
theorem RX {b : Int} {w : World} :
    oX 155 #[Z.u b] w fun e w' => e = .returned (.bool (decide (240 ≤ b ∧ b ≤ 249))) ∧ az no w w' := by
 refine Yv.calls ?_
 unfold Yv
 have hF : az no w w := Fr.refl _ _ _
 refine ay (geq _ _ _ _) (fun h1 => ?_) (fun h1 => ?_)
 refine bD (bD ?_)
 refine aj (leq _ _ _ _) ?_
 refine bu ?_
 exact ⟨yN (by omega), hF⟩
 refine bf (bf (bG ?_))
 exact ⟨KH (by omega), hF⟩
theorem EI {b : Int} {w : World} (h0 : 0 ≤ b := by omega) (h1 : b < 256 := by omega) :
    oX 129 #[Z.u b] w fun e w' => e = .returned (.int .i32 (57344 + b)) ∧ az no w w' := by
 refine Yw.calls ?_
 unfold Yw
 have hF : az no w w := Fr.refl _ _ _
 refine aj (KI (by kernel_rfl) (by kernel_rfl) (by omega)) ?_
 refine aj (ahk _ (by omega)) ?_
 exact ⟨rfl, hF⟩
theorem RY {page : Int} {w : World} :
    oX 79 #[Z.i page] w fun e w' => ∃ v, e = .returned v ∧ ∃ A c, v = .slice A (Gs.lH page).length c ∧ az no w w' ∧ Rd w' A (Ig (Gs.lH page)) ∧ uK A (Ig (Gs.lH page)) w.heap.size := by
 refine F79.calls ?_
 unfold F79
 have hF : az no w w := Fr.refl _ _ _
 refine ay (dC _ _ _ _ _) (fun h1 => ?_) (fun h1 => ?_)
 refine aH ?_
 refine aj (bz (l := [(0, 1), (1, 1)]) (z := #[Z.u 0, Z.u 0]) (by kernel_rfl) (by (simp [eP, splice, gq, Value.cells]; rfl))) ?_
 refine aj (bz (l := [(0, 1), (1, 1)]) (z := #[Z.u 0, Z.u 0]) (by kernel_rfl) (by (simp [eP, splice, gq, Value.cells]; rfl))) ?_
 refine aj (bz (l := [(0, 1), (1, 1)]) (z := #[Z.u 0, Z.u 0]) (by kernel_rfl) (by (simp [eP, splice, gq, Value.cells]; rfl))) ?_
 refine aj (bz (l := [(0, 1), (1, 1)]) (z := #[Z.u 0, Z.u 0]) (by kernel_rfl) (by (simp [eP, splice, gq, Value.cells]; rfl))) ?_
 refine aj (bz (l := [(0, 1), (1, 1)]) (z := #[Z.u 0, Z.u 0]) (by kernel_rfl) (by (simp [eP, splice, gq, Value.cells]; rfl))) ?_
 refine aj (bz (l := [(0, 1), (1, 1)]) (z := #[Z.u 0, Z.u 0]) (by kernel_rfl) (by (simp [eP, splice, gq, Value.cells]; rfl))) ?_
 refine aj (bz (l := [(0, 1), (1, 1)]) (z := #[Z.u 0, Z.u 0]) (by kernel_rfl) (by (simp [eP, splice, gq, Value.cells]; rfl))) ?_
 refine dD (e := 142) (m := 2) (z := #[Z.u 0, Z.u 0]) (by kernel_rfl) (by kernel_rfl) (by rfl) (by decide) (by (simp [eP, splice, gq, Value.cells]; rfl)) (fun b2 w2 e2 ax _ U2 => ?_)
 have fF : w.heap.size ≤ b2 := by have := hF.size; omega
 replace hF := hF.go0 U2
 (subst_vars; exact ⟨_, rfl, _, _, rfl, hF, Rd.of_block (by assumption), uK.of_block (by assumption)⟩)
 refine aB ?_
 refine ay (dC _ _ _ _ _) (fun h4 => ?_) (fun h4 => ?_)
 refine aH ?_
 refine aj (bz (l := [(0, 1), (1, 1)]) (z := #[Z.u 0, Z.u 0]) (by kernel_rfl) (by (simp [eP, splice, gq, Value.cells]; rfl))) ?_
 refine aj (bz (l := [(0, 1), (1, 1)]) (z := #[Z.u 0, Z.u 0]) (by kernel_rfl) (by (simp [eP, splice, gq, Value.cells]; rfl))) ?_
 refine aj (bz (l := [(0, 1), (1, 1)]) (z := #[Z.u 0, Z.u 0]) (by kernel_rfl) (by (simp [eP, splice, gq, Value.cells]; rfl))) ?_
 refine aj (bz (l := [(0, 1), (1, 1)]) (z := #[Z.u 0, Z.u 0]) (by kernel_rfl) (by (simp [eP, splice, gq, Value.cells]; rfl))) ?_
 refine aj (bz (l := [(0, 1), (1, 1)]) (z := #[Z.u 0, Z.u 0]) (by kernel_rfl) (by (simp [eP, splice, gq, Value.cells]; rfl))) ?_
 refine aj (bz (l := [(0, 1), (1, 1)]) (z := #[Z.u 0, Z.u 0]) (by kernel_rfl) (by (simp [eP, splice, gq, Value.cells]; rfl))) ?_
 refine dD (e := 142) (m := 2) (z := #[Z.u 0, Z.u 0]) (by kernel_rfl) (by kernel_rfl) (by rfl) (by decide) (by (simp [eP, splice, gq, Value.cells]; rfl)) (fun b5 w5 e5 bV _ U5 => ?_)
 have iF : w.heap.size ≤ b5 := by have := hF.size; omega
 replace hF := hF.go0 U5
 (subst_vars; exact ⟨_, rfl, _, _, rfl, hF, Rd.of_block (by assumption), uK.of_block (by assumption)⟩)
 refine aB ?_
 exact ⟨_, rfl, none, 0, by simp [Gs.lH, *], hF, by simp [Gs.lH, *, Ig, Rd.nil], .inl (by simp [Gs.lH, *, Ig])⟩
theorem DZ {page b : Int} {w : World} (h0 : 0 ≤ b := by omega) (h1 : b < 256 := by omega) :
    oX 39 #[Z.i page, Z.u b] w fun e w' => e = .returned (.int .i32 (Gs.sign page b)) ∧ az no w w' := by
 refine F39.calls ?_
 unfold F39
 have l_plain := Gs.QG
 have l_sw := Gs.adP page
 have hF : az no w w := Fr.refl _ _ _
 refine bH (fun g w' => ((Gs.lH page).find? (fun p => p.1 == b) = none) ∧ (az no w w')) (fun J1 hJ1 => ?_) (fun gJ1 jX hI => ?_)
 refine aJ (RY) (fun v1 w1 D1 => ?_)
 obtain ⟨A8, c8, rfl, U1, rd8, gA8⟩ := D1
 refine aj (gm (by kernel_rfl) _ _ _) ?_
 refine dW (fun g w' => ∃ (k : Nat), (g 10 = Z.i (k : Int)) ∧ (k ≤ (Gs.lH page).length) ∧ (((Gs.lH page).take k).find? (fun p => p.1 == b) = none) ∧ (Rd w' A8 (Ig (Gs.lH page))) ∧ (az no w w')) (fun g w' => (Gs.lH page).length - (RowKit.intOf (g 10)).toNat) ?_ (fun g2 qj hI => ?_)
 replace hF := hF.go0 U1
 exact ⟨0, (by rfl), Nat.zero_le _, rfl, rd8, hF⟩
 replace hF := hF.go0 U1
 obtain ⟨k, g10, hk, hall, rd8, hF⟩ := hI
 rw [g10]
 refine ay (lss _ _ _ _) (fun h2 => ?_) (fun h2 => ?_)
 refine aH ?_
 have hk3 : k < ((Gs.lH page)).length := by omega
 obtain ⟨p3, hp3⟩ : ∃ p, ((Gs.lH page))[k]? = some p := ⟨_, List.getElem?_eq_getElem hk3⟩
 refine Pz (m := 2) (by kernel_rfl) (by kernel_rfl) rd8 (by decide) (Yx _).symm (by omega) (by omega) (ajj _ _ p3 (by simpa using hp3)) ?_
 obtain ⟨q1, q2, q3, q4, q5⟩ := Gs.adQ hp3
 refine Z.n (#[Z.u 0, Z.u 0]) (fun b4 w4 e4 dh _ U4 => ?_)
 have abt := rd8.apart e4
 have lV : w.heap.size ≤ b4 := by have := hF.size; omega
 refine gQ (n := 2) (by kernel_rfl) (by rfl) (by (simp [Value.cells, Value.oneCell']; done)) dh (Nat.le_of_ble_eq_true rfl) (by (simp; rfl)) (fun w5 dh _ U5 => ?_)
 refine Z.f 0 ?_
 refine Z.l dh ?_
 refine ay (dC _ _ _ _ _) (fun h6 => ?_) (fun h6 => ?_)
 refine aH ?_
 refine Z.f 1 ?_
 refine Z.l dh ?_
 refine aj (KI (by kernel_rfl) (by kernel_rfl) (by omega)) ?_
 replace hF := (hF.go0 U4).go1 U5 lV
 exact ⟨nI (Gs.abu (abv hp3 hall (by simpa using by assumption))), hF⟩
 refine aB ?_
 refine aj (dF _ (by omega)) ?_
 replace rd8 := (rd8.ai U4).aA U5 abt
 replace hF := (hF.go0 U4).go1 U5 lV
 exact ⟨⟨k + 1, (by rfl), by omega, (Dt hp3 hall (by simpa using by assumption)), rd8, hF⟩, cnt_lt (by rfl) rfl (by omega)⟩
 refine aB ?_
 refine hJ1 _ _ ?_
 exact ⟨(by rw [← hall, List.take_of_length_le (by omega)]), hF⟩
 obtain ⟨hnone, hF⟩ := hI
 refine aG (RV) (fun w8 U8 => ?_)
 refine Yy (n := 256) (by kernel_rfl) (by assumption) (by omega) (by omega) (fun x9 hx9 => ?_)
 have q := Gs.abw hx9
 refine aj (KI (by kernel_rfl) (by kernel_rfl) (by omega)) ?_
 replace hF := hF.go0 U8
 exact ⟨nI (Gs.abx hnone hx9), hF⟩
section
variable (R : Ending → World → Prop) (w : World)
set_option maxRecDepth 100000
def F29 (a0 a1 : Value) : Prop :=
 oC 66 #[a0, a1, (Z.i (-1))] w R fun t7 w =>
 R (.returned t7) w
theorem F29.calls {R w a0 a1} : F29 R w a0 a1 → oX 29 #[a0, a1] w R := Z.k [0,1,4]
end
theorem mW {x : Int} {w : World} (hx : 0 ≤ x ∧ x ≤ 255) :
    oX 136 #[Z.u x] w fun e w' => e = .returned (.bool (decide (x / 32 % 2 = 1))) ∧ az no w w' := by
 refine Y9.calls ?_
 unfold Y9
 have hF : az no w w := Fr.refl _ _ _
 refine aj (ag5 _ (by omega)) ?_
 refine aj (kL _ _ _ _ _) ?_
 exact ⟨yN (by omega), hF⟩
theorem Dv {x : Int} {w : World} (hx : 0 ≤ x ∧ x ≤ 255) :
    oX 140 #[Z.u x] w fun e w' => e = .returned (.bool (decide (x % 2 = 1))) ∧ az no w w' := by
 refine Zc.calls ?_
 unfold Zc
 have hF : az no w w := Fr.refl _ _ _
 refine aj (Q8 _ (by omega)) ?_
 refine aj (kL _ _ _ _ _) ?_
 exact ⟨yN (by omega), hF⟩
theorem MG {x : Int} {w : World} (hx : 0 ≤ x ∧ x ≤ 255) :
    oX 137 #[Z.u x, .bool true] w fun e w' => e = .returned (Z.u (x - x % 2 + 1)) ∧ az no w w' := by
 refine Oq.calls ?_
 unfold Oq
 have hF : az no w w := Fr.refl _ _ _
 refine aH ?_
 refine aj (al6 _ (by omega)) ?_
 exact ⟨rfl, hF⟩
theorem yh {x : Int} {w : World} (hx : 0 ≤ x ∧ x ≤ 255) :
    oX 137 #[Z.u x, .bool false] w fun e w' => e = .returned (Z.u (x - x % 2)) ∧ az no w w' := by
 refine Oq.calls ?_
 unfold Oq
 have hF : az no w w := Fr.refl _ _ _
 refine aB ?_
 refine aj (abh _ (by omega)) ?_
 exact ⟨rfl, hF⟩
theorem EL {r c cur : Int} {A : Option Addr} {n cp bp B0 : Nat} {cs : List Gs.Cell} {w : World} (af : Z.h w bp #[Z.i r, Z.i c, .slice A n cp, Z.i cur] 91) (ae : Own B0 w 37 5 (.slice A n cp) (rows Gs.cv cs)) (hn : n = cs.length) {i : Int} (hN : Gs.aU r c = n) (hb : n ≤ 4096) :
    oX 66 #[Z.p bp, Z.i i, Z.i 1] w fun e w' => e = .returned (Z.i (Gs.kT cs i 1)) ∧ az no w w' := by
 refine WW.calls ?_
 unfold WW
 subst hn
 have hF : az no w w := Fr.refl _ _ _
 refine ay (lss _ _ _ _) (fun h1 => ?_) (fun h1 => ?_)
 refine bI (bI (bI (bI (bu (aH ?_)))))
 exact ⟨nI (Gs.yY (by omega)).symm, hF⟩
 refine bP (bP (bP ?_))
 refine aG (eY af ae rfl) (fun w3 U3 => ?_)
 refine bP ?_
 refine ay (geq _ _ _ _) (fun h4 => ?_) (fun h4 => ?_)
 refine bG (aH ?_)
 replace hF := hF.go0 U3
 exact ⟨nI (Gs.yY (by omega)).symm, hF⟩
 refine bG (aB ?_)
 refine bH (fun g w' => (Gs.wZ cs i 1 cs.length) ∧ (az no w w')) (fun J1 hJ1 => ?_) (fun gJ1 jX hI => ?_)
 replace ae := ae.ai U3
 replace af := U3.ag af
 refine aG (eY af ae rfl) (fun w6 U6 => ?_)
 refine dW (fun g w' => ∃ (k : Nat), (g 19 = Z.i (k : Int)) ∧ (k ≤ cs.length) ∧ (Gs.wZ cs i 1 k) ∧ (Z.h w' bp #[Z.i r, Z.i c, .slice A cs.length cp, Z.i cur] 91) ∧ (Own B0 w' 37 5 (.slice A cs.length cp) (rows Gs.cv cs)) ∧ (az no w w')) (fun g w' => cs.length - (RowKit.intOf (g 19)).toNat) ?_ (fun g2 qj hI => ?_)
 replace hF := (hF.go0 U3).go0 U6
 replace ae := ae.ai U6
 replace af := U6.ag af
 exact ⟨0, (by rfl), Nat.zero_le _, (Gs.WX _ _ _), af, ae, hF⟩
 replace hF := (hF.go0 U3).go0 U6
 replace ae := ae.ai U6
 replace af := U6.ag af
 obtain ⟨k, g19, hk, hno, af, ae, hF⟩ := hI
 rw [g19]
 refine ay (lss _ _ _ _) (fun h7 => ?_) (fun h7 => ?_)
 refine aH ?_
 refine aG (ku af ae rfl) (fun w8 U8 => ?_)
 refine aj (EJ _ (by omega)) ?_
 refine aG (mO (i := i) (j := (k : Int) * 1)) (fun w9 U9 => ?_)
 rw [hN, Gs.rQ (by omega)]
 replace ae := (ae.ai U8).ai U9
 replace af := U9.ag (U8.ag af)
 refine aG (iI af ae rfl (i := (i + (k : Int) * 1) % (cs.length : Int))) (fun w10 aT => ?_)
 refine mQ (tH (off := 2) (by kernel_rfl) (by rfl)) (fun h11 => ?_) (fun h11 => ?_)
 refine aH ?_
 replace hF := ((hF.go0 U8).go0 U9).go0 aT
 exact ⟨nI (Gs.Jl (by omega) hno (by omega) (by assumption)).symm, hF⟩
 refine aB ?_
 refine aj (dF _ (by omega)) ?_
 replace hF := ((hF.go0 U8).go0 U9).go0 aT
 replace ae := ae.ai aT
 replace af := aT.ag af
 exact ⟨⟨k + 1, (by rfl), by omega, (Gs.MH hno (by assumption)), af, ae, hF⟩, cnt_lt (by rfl) rfl (by omega)⟩
 refine aB ?_
 refine hJ1 _ _ ?_
 exact ⟨(by rw [show cs.length = k by omega]; rw [show k = cs.length by omega] at hno ⊢; exact hno), hF⟩
 replace hF := hF.go0 U3
 obtain ⟨hno, hF⟩ := hI
 exact ⟨nI (Gs.PL hno).symm, hF⟩
theorem Ot {r c cur : Int} {A : Option Addr} {n cp bp B0 : Nat} {cs : List Gs.Cell} {w : World} (af : Z.h w bp #[Z.i r, Z.i c, .slice A n cp, Z.i cur] 91) (ae : Own B0 w 37 5 (.slice A n cp) (rows Gs.cv cs)) (hn : n = cs.length) {i : Int} (hN : Gs.aU r c = n) (hb : n ≤ 4096) :
    oX 66 #[Z.p bp, Z.i i, Z.i (-1)] w fun e w' => e = .returned (Z.i (Gs.kT cs i (-1))) ∧ az no w w' := by
 refine WW.calls ?_
 unfold WW
 subst hn
 have hF : az no w w := Fr.refl _ _ _
 refine ay (lss _ _ _ _) (fun h1 => ?_) (fun h1 => ?_)
 refine bI (bI (bI (bI (bu (aH ?_)))))
 exact ⟨nI (Gs.yY (by omega)).symm, hF⟩
 refine bP (bP (bP ?_))
 refine aG (eY af ae rfl) (fun w3 U3 => ?_)
 refine bP ?_
 refine ay (geq _ _ _ _) (fun h4 => ?_) (fun h4 => ?_)
 refine bG (aH ?_)
 replace hF := hF.go0 U3
 exact ⟨nI (Gs.yY (by omega)).symm, hF⟩
 refine bG (aB ?_)
 refine bH (fun g w' => (Gs.wZ cs i (-1) cs.length) ∧ (az no w w')) (fun J1 hJ1 => ?_) (fun gJ1 jX hI => ?_)
 replace ae := ae.ai U3
 replace af := U3.ag af
 refine aG (eY af ae rfl) (fun w6 U6 => ?_)
 refine dW (fun g w' => ∃ (k : Nat), (g 19 = Z.i (k : Int)) ∧ (k ≤ cs.length) ∧ (Gs.wZ cs i (-1) k) ∧ (Z.h w' bp #[Z.i r, Z.i c, .slice A cs.length cp, Z.i cur] 91) ∧ (Own B0 w' 37 5 (.slice A cs.length cp) (rows Gs.cv cs)) ∧ (az no w w')) (fun g w' => cs.length - (RowKit.intOf (g 19)).toNat) ?_ (fun g2 qj hI => ?_)
 replace hF := (hF.go0 U3).go0 U6
 replace ae := ae.ai U6
 replace af := U6.ag af
 exact ⟨0, (by rfl), Nat.zero_le _, (Gs.WX _ _ _), af, ae, hF⟩
 replace hF := (hF.go0 U3).go0 U6
 replace ae := ae.ai U6
 replace af := U6.ag af
 obtain ⟨k, g19, hk, hno, af, ae, hF⟩ := hI
 rw [g19]
 refine ay (lss _ _ _ _) (fun h7 => ?_) (fun h7 => ?_)
 refine aH ?_
 refine aG (ku af ae rfl) (fun w8 U8 => ?_)
 refine aj (EJ _ (by omega)) ?_
 refine aG (mO (i := i) (j := (k : Int) * (-1))) (fun w9 U9 => ?_)
 rw [hN, Gs.rQ (by omega)]
 replace ae := (ae.ai U8).ai U9
 replace af := U9.ag (U8.ag af)
 refine aG (iI af ae rfl (i := (i + (k : Int) * (-1)) % (cs.length : Int))) (fun w10 aT => ?_)
 refine mQ (tH (off := 2) (by kernel_rfl) (by rfl)) (fun h11 => ?_) (fun h11 => ?_)
 refine aH ?_
 replace hF := ((hF.go0 U8).go0 U9).go0 aT
 exact ⟨nI (Gs.Jl (by omega) hno (by omega) (by assumption)).symm, hF⟩
 refine aB ?_
 refine aj (dF _ (by omega)) ?_
 replace hF := ((hF.go0 U8).go0 U9).go0 aT
 replace ae := ae.ai aT
 replace af := aT.ag af
 exact ⟨⟨k + 1, (by rfl), by omega, (Gs.MH hno (by assumption)), af, ae, hF⟩, cnt_lt (by rfl) rfl (by omega)⟩
 refine aB ?_
 refine hJ1 _ _ ?_
 exact ⟨(by rw [show cs.length = k by omega]; rw [show k = cs.length by omega] at hno ⊢; exact hno), hF⟩
 replace hF := hF.go0 U3
 obtain ⟨hno, hF⟩ := hI
 exact ⟨nI (Gs.PL hno).symm, hF⟩
theorem EM {r c cur : Int} {A : Option Addr} {n cp bp B0 : Nat} {cs : List Gs.Cell} {w : World} (af : Z.h w bp #[Z.i r, Z.i c, .slice A n cp, Z.i cur] 91) (ae : Own B0 w 37 5 (.slice A n cp) (rows Gs.cv cs)) (hn : n = cs.length) {i : Int} (hN : Gs.aU r c = n) (hb : n ≤ 4096) :
    oX 29 #[Z.p bp, Z.i i] w fun e w' => e = .returned (Z.i (Gs.iZ cs i)) ∧ az no w w' := by
 refine F29.calls ?_
 unfold F29
 have hF : az no w w := Fr.refl _ _ _
 refine aG (Ot af ae hn hN hb (i := i)) (fun w1 U1 => ?_)
 replace hF := hF.go0 U1
 exact ⟨rfl, hF⟩
theorem QL {r c cur : Int} {A : Option Addr} {n cp bp B0 : Nat} {cs : List Gs.Cell} {w : World} (af : Z.h w bp #[Z.i r, Z.i c, .slice A n cp, Z.i cur] 91) (ae : Own B0 w 37 5 (.slice A n cp) (rows Gs.cv cs)) (hn : n = cs.length) {i : Int} (hN : Gs.aU r c = n) (hb : n ≤ 4096) :
    oX 173 #[Z.p bp, Z.i i] w fun e w' => e = .returned (Z.i (Gs.ug cs i)) ∧ az no w w' := by
 refine Zj.calls ?_
 unfold Zj
 subst hn
 have hF : az no w w := Fr.refl _ _ _
 refine ay (lss _ _ _ _) (fun h1 => ?_) (fun h1 => ?_)
 refine bI (bI (bI (bI (bu (aH ?_)))))
 exact ⟨nI (Gs.WY (by omega)).symm, hF⟩
 refine bP (bP (bP ?_))
 refine aG (eY af ae rfl) (fun w3 U3 => ?_)
 refine bP ?_
 refine ay (geq _ _ _ _) (fun h4 => ?_) (fun h4 => ?_)
 refine bG (aH ?_)
 replace hF := hF.go0 U3
 exact ⟨nI (Gs.WY (by omega)).symm, hF⟩
 refine bG (aB ?_)
 replace ae := ae.ai U3
 replace af := U3.ag af
 refine aG (ku af ae rfl) (fun w6 U6 => ?_)
 refine aG (mO (i := i) (j := 1)) (fun w7 U7 => ?_)
 rw [hN, Gs.rQ (by omega)]
 replace ae := (ae.ai U6).ai U7
 replace af := U7.ag (U6.ag af)
 refine aG (EL af ae rfl hN hb (i := (i + 1) % (cs.length : Int))) (fun w8 U8 => ?_)
 replace hF := (((hF.go0 U3).go0 U6).go0 U7).go0 U8
 exact ⟨nI (Gs.abG (by omega)).symm, hF⟩
theorem AC {r c cur : Int} {A : Option Addr} {n cp bp B0 : Nat} {cs : List Gs.Cell} {w : World} (af : Z.h w bp #[Z.i r, Z.i c, .slice A n cp, Z.i cur] 91) (ae : Own B0 w 37 5 (.slice A n cp) (rows Gs.cv cs)) (hn : n = cs.length) (hN : Gs.aU r c = n) (hb : n ≤ 4096) :
    oX 61 #[Z.p bp] w fun e w' => e = .returned (.bool (decide (0 ≤ Gs.kT cs 0 1))) ∧ az no w w' := by
 refine F61.calls ?_
 unfold F61
 have hF : az no w w := Fr.refl _ _ _
 refine aG (EL af ae hn hN hb (i := 0)) (fun w1 U1 => ?_)
 refine aj (geq _ _ _ _) ?_
 replace hF := hF.go0 U1
 exact ⟨yN (by omega), hF⟩
theorem MI {r c cur : Int} {A : Option Addr} {n cp bp B0 : Nat} {cs : List Gs.Cell} {w : World} (af : Z.h w bp #[Z.i r, Z.i c, .slice A n cp, Z.i cur] 91) (ae : Own B0 w 37 5 (.slice A n cp) (rows Gs.cv cs)) (hn : n = cs.length) {i : Int} (hN : Gs.aU r c = n) (hb : n ≤ 4096)(hcw : Gs.jq cs) (hi : 0 ≤ i ∧ i < cs.length) :
    oX 154 #[Z.p bp, Z.i i] w fun e w' => e = .returned (.agg (Gs.fv (Gs.je cs i)).toArray) ∧ az no w w' := by
 refine Zf.calls ?_
 unfold Zf
 subst hn
 have hab := Gs.ajx hi
 have hgw := Gs.qY hcw i
 have hF : az no w w := Fr.refl _ _ _
 refine Z.n ((Gs.fv Gs.zf).toArray) (fun b1 w1 e1 ah _ U1 => ?_)
 have bU : w.heap.size ≤ b1 := by have := hF.size; omega
 replace ae := ae.ai U1
 replace af := U1.ag af
 refine aG (QL af ae rfl hN hb (i := i)) (fun w2 U2 => ?_)
 refine aj (vZ _ (by omega)) ?_
 refine aj (vZ _ (by omega)) ?_
 refine bH (fun g w' => (g 5 = Z.i (Gs.vK cs i)) ∧ (Z.h w' bp #[Z.i r, Z.i c, .slice A cs.length cp, Z.i cur] 91) ∧ (Own B0 w' 37 5 (.slice A cs.length cp) (rows Gs.cv cs)) ∧ (Z.h w' b1 ((Gs.fv Gs.zf).toArray) 173) ∧ (az no w w')) (fun J1 hJ1 => ?_) (fun gJ1 jX hI => ?_)
 refine ay (lss _ _ _ _) (fun h3 => ?_) (fun h3 => ?_)
 refine aH ?_
 replace ae := ae.ai U2
 replace af := U2.ag af
 refine aG (eY af ae rfl) (fun w4 U4 => ?_)
 refine aj (dF _ (by omega)) ?_
 refine hJ1 _ _ ?_
 replace hF := ((hF.go0 U1).go0 U2).go0 U4
 replace ah := U4.ag (U2.ag ah)
 replace ae := ae.ai U4
 replace af := U4.ag af
 exact ⟨(by exact congrArg (Value.int .i64) (Gs.ajy (by assumption))), af, ae, ah, hF⟩
 refine aB ?_
 refine hJ1 _ _ ?_
 replace hF := (hF.go0 U1).go0 U2
 replace ae := ae.ai U2
 replace af := U2.ag af
 replace ah := U2.ag ah
 exact ⟨(by exact congrArg (Value.int .i64) (Gs.ajz (by assumption))), af, ae, ah, hF⟩
 replace hF := (hF.go0 U1).go0 U2
 replace ae := ae.ai U2
 replace af := U2.ag af
 replace ah := U2.ag ah
 obtain ⟨g5, af, ae, ah, hF⟩ := hI
 rw [g5]
 refine aG (iI af ae rfl (i := i)) (fun w5 U5 => ?_)
 refine aj (tH (off := 0) (by kernel_rfl) (by rfl)) ?_
 refine aj (EC _ (by omega)) ?_
 refine aj (bz (l := [(0, 1), (1, 1), (2, 1)]) (z := #[Z.i 0, Z.i 0, Z.u 0]) (by kernel_rfl) (by (simp [eP, splice, gq, Value.cells, Gs.cv, Gs.fv]; rfl))) ?_
 replace ah := U5.ag ah
 refine gQ (n := 3) (by kernel_rfl) (by rfl) (by (simp [Value.cells, Value.oneCell', Gs.cv, Gs.fv]; done)) ah (Nat.le_of_ble_eq_true rfl) (by (simp; rfl)) (fun w6 ah _ U6 => ?_)
 refine Z.a 3 ah ?_
 replace hF := (hF.go0 U5).go1 U6 bU
 exact ⟨rfl, hF⟩
theorem tX {r c cur : Int} {A : Option Addr} {n cp bp B0 : Nat} {cs : List Gs.Cell} {w : World} (af : Z.h w bp #[Z.i r, Z.i c, .slice A n cp, Z.i cur] 91) (ae : Own B0 w 37 5 (.slice A n cp) (rows Gs.cv cs)) (hn : n = cs.length) {i : Int} (hN : Gs.aU r c = n) (hb : n ≤ 4096)(hcw : Gs.jq cs)  :
    oX 116 #[Z.p bp, Z.i i] w fun e w' => e = .returned (.tuple #[.agg (Gs.fv (Gs.mg cs i)).toArray, .bool (Gs.mf cs i)]) ∧ az no w w' := by
 refine Y1.calls ?_
 unfold Y1
 subst hn
 have hF : az no w w := Fr.refl _ _ _
 refine Z.n ((Gs.fv Gs.zf).toArray) (fun b1 w1 e1 ah _ U1 => ?_)
 have bU : w.heap.size ≤ b1 := by have := hF.size; omega
 replace ae := ae.ai U1
 replace af := U1.ag af
 refine aG (EM af ae rfl hN hb (i := i)) (fun w2 U2 => ?_)
 refine ay (lss _ _ _ _) (fun h3 => ?_) (fun h3 => ?_)
 refine aH ?_
 refine aj (bz (l := [(0, 1), (1, 1), (2, 1)]) (z := #[Z.i 0, Z.i 0, Z.u 0]) (cs := (Gs.fv Gs.zf)) (by kernel_rfl) (by rfl)) ?_
 replace ah := U2.ag ah
 refine Z.t 3 ((Gs.fv Gs.zf).toArray) (by (simp [Value.cells, Value.oneCell', Gs.cv, Gs.fv]; done)) ah (fun w4 ah _ U4 => ?_)
 refine Z.a 3 ah ?_
 replace hF := ((hF.go0 U1).go0 U2).go1 U4 bU
 exact ⟨Gs.ajA (by assumption), hF⟩
 refine aB ?_
 replace ae := ae.ai U2
 replace af := U2.ag af
 refine aG (MI af ae rfl hN hb hcw (i := Gs.iZ cs i) (Gs.WZ (by assumption))) (fun w6 U6 => ?_)
 replace ah := U6.ag (U2.ag ah)
 refine Z.t 3 ((Gs.fv (Gs.je cs (Gs.iZ cs i))).toArray) (by (simp [Value.cells, Value.oneCell', Gs.cv, Gs.fv]; done)) ah (fun w7 ah _ U7 => ?_)
 refine Z.a 3 ah ?_
 replace hF := (((hF.go0 U1).go0 U2).go0 U6).go1 U7 bU
 exact ⟨Gs.ajB (by assumption), hF⟩
theorem nN {r c cur : Int} {A : Option Addr} {n cp bp B0 : Nat} {cs : List Gs.Cell} {w : World} (af : Z.h w bp #[Z.i r, Z.i c, .slice A n cp, Z.i cur] 91) (ae : Own B0 w 37 5 (.slice A n cp) (rows Gs.cv cs)) (hn : n = cs.length) {i : Int} (hN : Gs.aU r c = n) (hb : n ≤ 4096)(hcw : Gs.jq cs)  :
    oX 117 #[Z.p bp, Z.i i] w fun e w' => e = .returned (.bool (Gs.kG cs i)) ∧ az no w w' := by
 refine Y2.calls ?_
 unfold Y2
 subst hn
 have hF : az no w w := Fr.refl _ _ _
 refine aG (tX af ae rfl hN hb hcw (i := i)) (fun w1 U1 => ?_)
 refine Z.e ?_
 refine Z.e ?_
 refine Z.n ((Gs.fv Gs.zf).toArray) (fun b2 w2 e2 ax _ U2 => ?_)
 replace af := U1.ag af
 have fH : bp ≠ b2 := by have := au af; omega
 replace ae := ae.ai U1
 have dN := ae.apart e2
 replace hF := hF.go0 U1
 have fF : w.heap.size ≤ b2 := by have := hF.size; omega
 refine Z.t 3 ((Gs.fv (Gs.mg cs i)).toArray) (by (simp [Value.cells, Value.oneCell', Gs.cv, Gs.fv]; done)) ax (fun w3 ax _ U3 => ?_)
 refine aj (Ak _) ?_
 refine jZ (fun h4 => ?_) (fun h4 => ?_)
 refine ay (geq _ _ _ _) (fun h5 => ?_) (fun h5 => ?_)
 refine bD (bD (bD ?_))
 replace ae := (ae.ai U2).aA U3 dN
 replace af := U3.ak (U2.ag af) fH
 refine aG (eY af ae rfl) (fun w6 U6 => ?_)
 refine bD ?_
 refine aj (lss _ _ _ _) ?_
 refine bu ?_
 have hob : Gs.mf cs i = false ∨ Gs.mf cs i = true := by cases Gs.mf cs i <;> simp
 replace hF := ((hF.go0 U2).go1 U3 fF).go0 U6
 rw [Gs.W9 (by simp_all)]; exact ⟨yN (by omega), hF⟩
 refine bf (bf (bf (bf (bG ?_))))
 have hob : Gs.mf cs i = false ∨ Gs.mf cs i = true := by cases Gs.mf cs i <;> simp
 replace hF := (hF.go0 U2).go1 U3 fF
 rw [Gs.W9 (by simp_all)]; exact ⟨KH (by omega), hF⟩
 refine Z.f 0 ?_
 refine Z.l ax ?_
 refine ay (kL _ _ _ _ _) (fun h9 => ?_) (fun h9 => ?_)
 refine bD ?_
 refine Z.f 2 ?_
 refine bD ?_
 refine Z.l ax ?_
 refine bD ?_
 refine aG (mW (Gs.YF hcw i)) (fun w10 aT => ?_)
 refine bD ?_
 refine aj (Ak _) ?_
 refine bu ?_
 have hob : Gs.mf cs i = false ∨ Gs.mf cs i = true := by cases Gs.mf cs i <;> simp
 replace hF := ((hF.go0 U2).go1 U3 fF).go0 aT
 rw [Gs.adW (by simp_all) (by assumption)]; exact ⟨rfl, hF⟩
 refine bf (bf (bf (bf (bG ?_))))
 have hob : Gs.mf cs i = false ∨ Gs.mf cs i = true := by cases Gs.mf cs i <;> simp
 replace hF := (hF.go0 U2).go1 U3 fF
 rw [Gs.abH (by simp_all) (by assumption)]; exact ⟨rfl, hF⟩
theorem KP {r c cur : Int} {A : Option Addr} {n cp bp B0 : Nat} {cs : List Gs.Cell} {w : World} (af : Z.h w bp #[Z.i r, Z.i c, .slice A n cp, Z.i cur] 91) (ae : Own B0 w 37 5 (.slice A n cp) (rows Gs.cv cs)) (hn : n = cs.length) {i : Int} (hN : Gs.aU r c = n) (hb : n ≤ 4096)(hcw : Gs.jq cs) (hi : 0 ≤ i ∧ i < cs.length) :
    oX 123 #[Z.p bp, Z.i i, .bool true] w fun e w' => ∃ v, e = .returned v ∧ Own B0 w' 37 5 (.slice A n cp) (rows Gs.cv (Gs.sO true cs i)) ∧ az (aC (.slice A n cp)) w w' := by
 refine Oo.calls ?_
 unfold Oo
 have hgw := Gs.qY hcw i
 have hF : az (aC (.slice A n cp)) w w := Fr.refl _ _ _
 refine aG (iI af ae hn (i := i)) (fun w1 U1 => ?_)
 refine Z.n ((Gs.cv Gs.zc).toArray) (fun b2 w2 e2 ax _ U2 => ?_)
 replace af := U1.ag af
 have fH : bp ≠ b2 := by have := au af; omega
 replace ae := ae.ai U1
 have dN := ae.apart e2
 replace hF := hF.go0 U1
 have fF : w.heap.size ≤ b2 := by have := hF.size; omega
 refine Z.t 5 ((Gs.cv (Gs.bJ cs i)).toArray) (by (simp [Value.cells, Value.oneCell', Gs.cv, Gs.fv]; done)) ax (fun w3 ax _ U3 => ?_)
 refine Z.f 0 ?_
 refine Z.l ax ?_
 refine aG (MG hgw) (fun w4 U4 => ?_)
 refine Z.f 0 ?_
 replace ax := U4.ag ax
 refine Z.s ax (fun w5 ax _ U5 => ?_)
 refine Z.b 5 _ ax ?_
 replace ae := (((ae.ai U2).aA U3 dN).ai U4).aA U5 dN
 replace af := U5.ak (U4.ag (U3.ak (U2.ag af) fH)) fH
 refine aJ (jG af ae hn (i := i) (x := Gs.Ec true (Gs.bJ cs i))) (fun v6 w6 D6 => ?_)
 obtain ⟨rfl, N6, U6⟩ := D6
 replace ae := N6
 replace hF := (((hF.go0 U2).go1 U3 fF).go0 U4).go1 U5 fF
 replace hF := hF.go U6 (fun i h hs => by exact hs)
 exact ⟨_, rfl, ae, hF⟩
theorem KQ {r c cur : Int} {A : Option Addr} {n cp bp B0 : Nat} {cs : List Gs.Cell} {w : World} (af : Z.h w bp #[Z.i r, Z.i c, .slice A n cp, Z.i cur] 91) (ae : Own B0 w 37 5 (.slice A n cp) (rows Gs.cv cs)) (hn : n = cs.length) {i : Int} (hN : Gs.aU r c = n) (hb : n ≤ 4096)(hcw : Gs.jq cs) (hi : 0 ≤ i ∧ i < cs.length) :
    oX 123 #[Z.p bp, Z.i i, .bool false] w fun e w' => ∃ v, e = .returned v ∧ Own B0 w' 37 5 (.slice A n cp) (rows Gs.cv (Gs.sO false cs i)) ∧ az (aC (.slice A n cp)) w w' := by
 refine Oo.calls ?_
 unfold Oo
 have hgw := Gs.qY hcw i
 have hF : az (aC (.slice A n cp)) w w := Fr.refl _ _ _
 refine aG (iI af ae hn (i := i)) (fun w1 U1 => ?_)
 refine Z.n ((Gs.cv Gs.zc).toArray) (fun b2 w2 e2 ax _ U2 => ?_)
 replace af := U1.ag af
 have fH : bp ≠ b2 := by have := au af; omega
 replace ae := ae.ai U1
 have dN := ae.apart e2
 replace hF := hF.go0 U1
 have fF : w.heap.size ≤ b2 := by have := hF.size; omega
 refine Z.t 5 ((Gs.cv (Gs.bJ cs i)).toArray) (by (simp [Value.cells, Value.oneCell', Gs.cv, Gs.fv]; done)) ax (fun w3 ax _ U3 => ?_)
 refine Z.f 0 ?_
 refine Z.l ax ?_
 refine aG (yh hgw) (fun w4 U4 => ?_)
 refine Z.f 0 ?_
 replace ax := U4.ag ax
 refine Z.s ax (fun w5 ax _ U5 => ?_)
 refine Z.b 5 _ ax ?_
 replace ae := (((ae.ai U2).aA U3 dN).ai U4).aA U5 dN
 replace af := U5.ak (U4.ag (U3.ak (U2.ag af) fH)) fH
 refine aJ (jG af ae hn (i := i) (x := Gs.Ec false (Gs.bJ cs i))) (fun v6 w6 D6 => ?_)
 obtain ⟨rfl, N6, U6⟩ := D6
 replace ae := N6
 replace hF := (((hF.go0 U2).go1 U3 fF).go0 U4).go1 U5 fF
 replace hF := hF.go U6 (fun i h hs => by exact hs)
 exact ⟨_, rfl, ae, hF⟩
theorem yg {r c cur : Int} {A : Option Addr} {n cp bp B0 : Nat} {cs : List Gs.Cell} {w : World} (af : Z.h w bp #[Z.i r, Z.i c, .slice A n cp, Z.i cur] 91) (ae : Own B0 w 37 5 (.slice A n cp) (rows Gs.cv cs)) (hn : n = cs.length) {i : Int} (hN : Gs.aU r c = n) (hb : n ≤ 4096)(hcw : Gs.jq cs)  :
    oX 73 #[Z.p bp, Z.i i] w fun e w' => ∃ v, e = .returned v ∧ v = .bool (decide (¬ Gs.iZ cs i < 0)) ∧ Own B0 w' 37 5 (.slice A n cp) (rows Gs.cv (Gs.pI cs i)) ∧ az (aC (.slice A n cp)) w w' := by
 refine F73.calls ?_
 unfold F73
 have hF : az (aC (.slice A n cp)) w w := Fr.refl _ _ _
 refine aG (EM af ae hn hN hb (i := i)) (fun w1 U1 => ?_)
 refine ay (lss _ _ _ _) (fun h2 => ?_) (fun h2 => ?_)
 refine aH ?_
 replace ae := ae.ai U1
 replace hF := hF.go0 U1
 exact ⟨_, rfl, by rw [decide_eq_false (by omega)], by rw [Gs.WT (by assumption)]; exact ae, hF⟩
 refine aB ?_
 replace ae := ae.ai U1
 replace af := U1.ag af
 refine aJ (KP af ae hn hN hb hcw (i := Gs.iZ cs i) (Gs.WZ (by assumption))) (fun v4 w4 D4 => ?_)
 obtain ⟨N4, U4⟩ := D4
 replace ae := N4
 replace hF := hF.go0 U1
 replace hF := hF.go U4 (fun i h hs => by exact hs)
 exact ⟨_, rfl, by rw [decide_eq_true (by assumption)], by rw [Gs.adX (by assumption)]; exact ae, hF⟩
theorem wO {r c cur : Int} {A : Option Addr} {n cp bp B0 : Nat} {cs : List Gs.Cell} {w : World} (af : Z.h w bp #[Z.i r, Z.i c, .slice A n cp, Z.i cur] 91) (ae : Own B0 w 37 5 (.slice A n cp) (rows Gs.cv cs)) (hn : n = cs.length)  :
    oX 135 #[Z.p bp] w fun e w' => ∃ v, e = .returned v ∧ ∃ b1, v = .func (.func 158) #[] #[Z.p b1] ∧ w.heap.size ≤ b1 ∧ Z.h w' b1 #[Z.p bp] 33 ∧ az no w w' := by
 refine Y8.calls ?_
 unfold Y8
 have hF : az no w w := Fr.refl _ _ _
 refine Z.x _ (fun b1 w1 e1 ah _ U1 => ?_)
 have bU : w.heap.size ≤ b1 := by have := hF.size; omega
 refine aj (mkF _ _ _) ?_
 replace hF := hF.go0 U1
 exact ⟨_, rfl, b1, rfl, bU, ah, hF⟩
theorem yV {r c cur : Int} {A : Option Addr} {n cp bp B0 : Nat} {cs : List Gs.Cell} {w : World} (af : Z.h w bp #[Z.i r, Z.i c, .slice A n cp, Z.i cur] 91) (ae : Own B0 w 37 5 (.slice A n cp) (rows Gs.cv cs)) (hn : n = cs.length) {f : Gs.pX} :
    oX 141 #[Z.p bp, .agg (Gs.fv f).toArray] w fun e w' => ∃ v, e = .returned v ∧ ∃ b1 b2, v = .func (.func 161) #[] #[Z.p b2, Z.p b1] ∧ w.heap.size ≤ b1 ∧ w.heap.size ≤ b2 ∧ Z.h w' b1 #[Z.p bp] 33 ∧ Z.h w' b2 ((Gs.fv f).toArray) 173 ∧ az no w w' := by
 refine Zd.calls ?_
 unfold Zd
 have hF : az no w w := Fr.refl _ _ _
 refine Z.x _ (fun b1 w1 e1 ah _ U1 => ?_)
 have bU : w.heap.size ≤ b1 := by have := hF.size; omega
 refine Z.x ((Gs.fv f).toArray) (fun b2 w2 e2 ax _ U2 => ?_)
 replace hF := hF.go0 U1
 have fF : w.heap.size ≤ b2 := by have := hF.size; omega
 refine aj (mkF _ _ _) ?_
 replace ah := U2.ag ah
 replace hF := hF.go0 U2
 exact ⟨_, rfl, b1, b2, rfl, bU, fF, ah, ax, hF⟩
theorem uq {r c cur : Int} {A : Option Addr} {n cp bp B0 b1 : Nat} {csF : Nat → List Gs.Cell} {y : Value} {J : Nat → World → Prop} {X : World → Prop} {w : World} (hcap : ∀ k w', J k w' → Z.h w' b1 #[Z.p bp] 33 ∧ Z.h w' bp #[Z.i r, Z.i c, .slice A n cp, Z.i cur] 91 ∧ Own B0 w' 37 5 (.slice A n cp) (rows Gs.cv (csF k))) (hst : ∀ k w' w'', J k w' → az no w' w'' → J k w'') (hsx : ∀ w' w'', X w' → az no w' w'' → X w'') (hlen : ∀ k, n = (csF k).length) (hw : ∀ k, Gs.jq (csF k)) (hst0 : ∀ k i, Gs.stB (csF k) i = Gs.stB (csF 0) i) (hN : Gs.aU r c = n) (hb : n ≤ 4096) (hy : ∀ k w' (s : Nat), (Gs.bQ (csF 0))[k]? = some s → J k w' → EK Tryz.prog y #[.agg (Gs.fv (Gs.je (csF k) s)).toArray] w' (J (k + 1)) X) (h0 : J 0 w) :
    oX 158 #[y, Z.p b1] w fun e w' => (∃ v, e = .returned v) ∧ (J (Gs.bQ (csF 0)).length w' ∨ X w') := by
 refine Zg.calls ?_
 unfold Zg
 obtain ⟨ah, af, ae⟩ := hcap _ _ h0
 have hl0 := hlen 0
 refine Z.l ah ?_
 refine aG (eY af ae (hlen 0)) (fun w1 U1 => ?_)
 replace h0 := hst _ _ _ h0 U1
 refine dW (fun g w' => ∃ k : Nat, k ≤ n ∧ g 6 = Z.i (k : Int) ∧ J (Gs.yZ (csF 0) k) w') (fun g w' => n - (RowKit.intOf (g 6)).toNat) ?_ (fun g1 wl1 hI => ?_)
 exact ⟨0, Nat.zero_le _, rfl, h0⟩
 obtain ⟨k, hk, g6, hJ⟩ := hI
 rw [g6]
 replace ae := ae.ai U1
 replace ah := U1.ag ah
 replace af := U1.ag af
 obtain ⟨ah, af, ae⟩ := hcap _ _ hJ
 refine ay (lss _ _ _ _) (fun h2 => ?_) (fun h2 => ?_)
 refine aH ?_
 refine Z.l ah ?_
 refine aG (iI af ae (hlen _) (i := (k : Int))) (fun w3 U3 => ?_)
 replace hJ := hst _ _ _ hJ U3
 refine mQ (tH (off := 2) (by kernel_rfl) (by rfl)) (fun h4 => ?_) (fun h4 => ?_)
 refine bD (bD ?_)
 replace ah := U3.ag ah
 refine Z.l ah ?_
 refine bD (bD ?_)
 replace ae := ae.ai U3
 replace af := U3.ag af
 refine aG (MI af ae (hlen _) hN hb (hw _) (i := (k : Int)) ⟨by omega, by rw [← hlen]; omega⟩) (fun w5 U5 => ?_)
 replace hJ := hst _ _ _ hJ U5
 refine bD ?_
 refine FP (hy _ _ k (Gs.abI (by omega) (by rw [← hst0 (Gs.yZ (csF 0) k) k]; assumption)) hJ) (fun wy6 hJ2 => ?_) (fun wy6 hX => ?_)
 replace ae := ae.ai U5
 replace ah := U5.ag ah
 replace af := U5.ag af
 obtain ⟨ah, af, ae⟩ := hcap _ _ hJ2
 refine bD ?_
 refine aj (lX) ?_
 refine bu (aB ?_)
 refine aj (dF _ (by omega)) ?_
 exact ⟨⟨k + 1, by omega, rfl, by (rw [Gs.amb (by rw [← hst0 (Gs.yZ (csF 0) k) k]; assumption)]; exact hJ2)⟩, cnt_lt (by rfl) rfl (by omega)⟩
 refine bD ?_
 refine aj (mV) ?_
 refine bu (aH ?_)
 exact ⟨⟨_, rfl⟩, .inr hX⟩
 refine bf (bf (bf (bf (bf (bf (bG (aB ?_)))))))
 refine aj (dF _ (by omega)) ?_
 exact ⟨⟨k + 1, by omega, rfl, by (rw [Gs.amc (by rw [← hst0 (Gs.yZ (csF 0) k) k]; assumption)]; exact hJ)⟩, cnt_lt (by rfl) rfl (by omega)⟩
 refine aB ?_
 exact ⟨⟨_, rfl⟩, .inl (by rw [← Gs.cnt_end, ← hl0, show n = k by omega]; exact hJ)⟩
theorem BP {r c cur : Int} {A : Option Addr} {n cp bp B0 b1 b2 : Nat} {cs : List Gs.Cell} {f : Gs.pX} {y : Value} {J : Nat → World → Prop} {X : World → Prop} {w : World} (hcap : ∀ k w', J k w' → Z.h w' b1 #[Z.p bp] 33 ∧ Z.h w' b2 ((Gs.fv f).toArray) 173 ∧ Z.h w' bp #[Z.i r, Z.i c, .slice A n cp, Z.i cur] 91 ∧ Own B0 w' 37 5 (.slice A n cp) (rows Gs.cv cs)) (hst : ∀ k w' w'', J k w' → az no w' w'' → J k w'') (hsx : ∀ w' w'', X w' → az no w' w'' → X w'') (hcx : ∀ w', X w' → Z.h w' b1 #[Z.p bp] 33 ∧ Z.h w' b2 ((Gs.fv f).toArray) 173 ∧ Z.h w' bp #[Z.i r, Z.i c, .slice A n cp, Z.i cur] 91 ∧ Own B0 w' 37 5 (.slice A n cp) (rows Gs.cv cs)) (hn : n = cs.length) (hN : Gs.aU r c = n) (hb : n ≤ 4096) (hy : ∀ k w' x, (Gs.dZ n f)[k]? = some x → J k w' → EK Tryz.prog y #[Z.i x] w' (J (k + 1)) X) (h0 : J 0 w) :
    oX 161 #[y, Z.p b2, Z.p b1] w fun e w' => (∃ v, e = .returned v) ∧ (J (Gs.dZ n f).length w' ∨ X w') := by
 refine Oi.calls ?_
 unfold Oi
 obtain ⟨ah, ax, af, ae⟩ := hcap _ _ h0
 refine dQ (S := no) (fun w1 U1 => ?_)
 replace h0 := hst _ _ _ h0 U1
 refine Z.g 0 ?_
 replace ax := U1.ag ax
 refine Z.m ax ?_
 refine jR (fun w' hw' => (lss _ _ _ _)) (fun h2 => ?_) (fun h2 => ?_)
 refine jr (jr (jr (jr (jr (jS ?_)))))
 refine aF (fun w3 U3 => ?_)
 replace h0 := hst _ _ _ h0 U3
 refine aH ?_
 exact ⟨⟨_, rfl⟩, .inl (by rw [Gs.xK (by omega)]; exact h0)⟩
 refine bF ?_
 refine Z.g 0 ?_
 refine bF ?_
 refine Z.m ax ?_
 refine bF ?_
 replace ah := U1.ag ah
 refine Z.m ah ?_
 refine bF ?_
 replace ae := ae.ai U1
 replace af := U1.ag af
 refine fU (fun w' hw' => by have af := hw'.ag af; have ae := ae.ai hw'; exact eY af ae hn) ?_
 refine bF ?_
 refine jR (fun w' hw' => (geq _ _ _ _)) (fun h6 => ?_) (fun h6 => ?_)
 refine fP ?_
 refine aF (fun w7 U7 => ?_)
 replace h0 := hst _ _ _ h0 U7
 refine aH ?_
 exact ⟨⟨_, rfl⟩, .inl (by rw [Gs.xK (by omega)]; exact h0)⟩
 refine fP ?_
 refine aF (fun w9 U9 => ?_)
 replace h0 := hst _ _ _ h0 U9
 refine aB ?_
 refine dQ (S := no) (fun w10 aT => ?_)
 replace h0 := hst _ _ _ h0 aT
 refine Z.g 1 ?_
 replace ax := aT.ag (U9.ag ax)
 refine Z.m ax ?_
 refine bi (fun w' hw' => (ajt _ _ _ _ _)) ?_
 replace ah := aT.ag (U9.ag ah)
 refine Z.m ah ?_
 replace ae := (ae.ai U9).ai aT
 replace af := aT.ag (U9.ag af)
 refine fU (fun w' hw' => by have af := hw'.ag af; have ae := ae.ai hw'; exact eY af ae hn) ?_
 refine bi (fun w' hw' => (aju _ _ _ _ _)) ?_
 refine aF (fun w12 cZ => ?_)
 replace h0 := hst _ _ _ h0 cZ
 refine dW (fun g w' => ∃ k : Nat, k ≤ (Gs.dZ n f).length ∧ g 21 = Z.i (k : Int) ∧ J k w') (fun g w' => (Gs.dZ n f).length - (RowKit.intOf (g 21)).toNat) ?_ (fun g1 wl1 hI => ?_)
 have hpl := Gs.qZ (N := n) (f := f) (by omega)
 exact ⟨0, Nat.zero_le _, rfl, h0⟩
 have hpl := Gs.qZ (N := n) (f := f) (by omega)
 obtain ⟨k, hk, g21, hJ⟩ := hI
 rw [g21]
 replace ae := ae.ai cZ
 replace ah := cZ.ag ah
 replace ax := cZ.ag ax
 replace af := cZ.ag af
 obtain ⟨ah, ax, af, ae⟩ := hcap _ _ hJ
 refine ay (lss _ _ _ _) (fun h13 => ?_) (fun h13 => ?_)
 refine aH ?_
 refine ag7 (C := (fun w' => Z.h w' b1 #[Z.p bp] 33 ∧ Z.h w' b2 ((Gs.fv f).toArray) 173 ∧ Z.h w' bp #[Z.i r, Z.i c, .slice A n cp, Z.i cur] 91 ∧ Own B0 w' 37 5 (.slice A n cp) (rows Gs.cv cs))) (fun a b hC U => ⟨U.ag hC.1, U.ag hC.2.1, U.ag hC.2.2.1, hC.2.2.2.ai U⟩) (fun sJ dw => ?_)
 replace hJ := hst _ _ _ hJ dw
 replace ae := ae.ai dw
 replace ah := dw.ag ah
 replace ax := dw.ag ax
 replace af := dw.ag af
 refine bi (fun w' hw' => by have hC' := hw' ⟨ah, ax, af, ae⟩; have ah := hC'.1; exact (kK (by kernel_rfl) ah (by rfl))) ?_
 refine fU (fun w' hw' => by have hC' := hw' ⟨ah, ax, af, ae⟩; have af := hC'.2.2.1; have ae := hC'.2.2.2; exact ku af ae hn) ?_
 refine Z.g 0 ?_
 refine bi (fun w' hw' => by have hC' := hw' ⟨ah, ax, af, ae⟩; have ax := hC'.2.1; exact (kK (by kernel_rfl) ax (by rfl))) ?_
 refine bi (fun w' hw' => (dF _ (by omega))) ?_
 refine fU (fun w' hw' => mO (i := f.s) (j := (k : Int) + 1)) ?_
 rw [hN, Gs.rQ (by omega), show ((k : Int) + 1) = ((k + 1 : Nat) : Int) by omega]
 refine aF (fun uo bY => ?_)
 replace hJ := hst _ _ _ hJ bY
 refine FP (hy k _ _ (Gs.vH (by omega)) hJ) (fun wy18 hJ2 => ?_) (fun wy18 hX => ?_)
 replace ae := ae.ai bY
 replace ah := bY.ag ah
 replace ax := bY.ag ax
 replace af := bY.ag af
 obtain ⟨ah, ax, af, ae⟩ := hcap _ _ hJ2
 refine bi (fun w' hw' => (lX)) ?_
 refine aF (fun yK eu => ?_)
 replace hJ2 := hst _ _ _ hJ2 eu
 refine aB ?_
 refine aj (dF _ (by omega)) ?_
 exact ⟨⟨k + 1, by omega, rfl, hJ2⟩, cnt_lt (by rfl) rfl (by omega)⟩
 refine bi (fun w' hw' => (mV)) ?_
 refine aF (fun wE dJ => ?_)
 replace hX := hsx _ _ hX dJ
 refine aH ?_
 exact ⟨⟨_, rfl⟩, .inr hX⟩
 refine aB ?_
 exact ⟨⟨_, rfl⟩, .inl (by rw [show (Gs.dZ n f).length = k by omega]; exact hJ)⟩
theorem BN {r c cur : Int} {A : Option Addr} {n cp bp B0 : Nat} {cs : List Gs.Cell} {w : World} (af : Z.h w bp #[Z.i r, Z.i c, .slice A n cp, Z.i cur] 91) (ae : Own B0 w 37 5 (.slice A n cp) (rows Gs.cv cs)) (hn : n = cs.length) (hN : Gs.aU r c = n) (hb : n ≤ 4096) (hcw : Gs.jq cs)  :
    oX 133 #[Z.p bp] w fun e w' => e = .returned (Z.i (Gs.sD cs)) ∧ az no w w' := by
 refine Y7.calls ?_
 unfold Y7
 subst hn
 have hF : az no w w := Fr.refl _ _ _
 refine Z.x _ (fun b1 w1 e1 ah _ U1 => ?_)
 refine Z.n (#[Z.i 0]) (fun b2 w2 e2 ax _ U2 => ?_)
 replace hF := hF.go0 U1
 have fF : w.heap.size ≤ b2 := by have := hF.size; omega
 refine bH (fun g w' => ∃ (D2 : Nat), (g 1000000 = mkV D2 undef) ∧ (w.heap.size ≤ D2) ∧ (w'.heap[D2]? = some (.deferred (some []))) ∧ (Gs.FV cs (Gs.bQ cs).length) ∧ (Z.h w' b2 #[Z.i 0] 3) ∧ (az no w w')) (fun J1 hJ1 => ?_) (fun gJ1 jX hI => ?_)
 replace ah := U2.ag ah
 refine Z.l ah ?_
 replace ae := (ae.ai U1).ai U2
 replace af := U2.ag (U1.ag af)
 refine aJ (wO af ae rfl) (fun v3 w3 D3 => ?_)
 obtain ⟨b1_5, rfl, g1_5, pq, U3⟩ := D3
 refine tZ (by kernel_rfl) (fun w4 l2 D2 Rdy2 Bsy2 Dn2 y2 eD el aZ bg lp1 lp2 lp3 sz4 U4 hY => ?_)
 have lp2_2 := lp2
 replace af := U3.ag af
 have iE : bp ≠ l2 := by have := au af; omega
 replace ae := ae.ai U3
 have fD : ∀ k, aC _ k → k ≠ l2 := fun k hk => by have := (Own.ge ae hk).2; omega
 replace ah := U3.ag ah
 have iJ : b1 ≠ l2 := by have := au ah; omega
 replace ax := U3.ag ax
 have uf : b2 ≠ D2 := by have := au ax; omega
 have gW : b2 ≠ l2 := by have := au ax; omega
 have AZ : b1_5 ≠ l2 := by have := au pq; omega
 replace hF := (hF.go0 U2).go0 U3
 have nG : w.heap.size ≤ D2 := by have := hF.size; omega
 have jK : w.heap.size ≤ l2 := by have := hF.size; omega
 have fQ : D2 ≠ l2 := by omega
 replace ae := ae.ai U4
 replace af := U4.ag af
 replace ah := U4.ag ah
 replace ax := U4.ag ax
 replace pq := U4.ag pq
 replace hF := hF.go0 U4
 refine Calls.mono (uq (b1 := b1_5) (csF := (fun _ => cs)) (J := (fun (k : Nat) (w' : World) => (Gs.FV cs k) ∧ (Z.h w' bp #[Z.i r, Z.i c, .slice A cs.length cp, Z.i cur] 91) ∧ (Own B0 w' 37 5 (.slice A cs.length cp) (rows Gs.cv cs)) ∧ (Z.h w' b1_5 #[Z.p bp] 33) ∧ (Z.h w' b1 #[Z.p bp] 33) ∧ (Z.h w' b2 #[Z.i 0] 3) ∧ (w'.heap[D2]? = some (.deferred (some []))) ∧ (w'.heap[l2]? = some Rdy2) ∧ (az no w w'))) (X := (fun (w' : World) => (w'.heap[l2]? = some (Dn2 0)) ∧ (Z.h w' b2 #[Z.i (Gs.sD cs)] 3) ∧ (w'.heap[D2]? = some (.deferred (some []))) ∧ (az no w w'))) (fun _ w' hJ => by obtain ⟨hno, af, ae, pq, ah, ax, aZ, bg, hF⟩ := hJ; exact ⟨pq, af, ae⟩) (fun _ w' w'' hJ U' => by obtain ⟨hno, af, ae, pq, ah, ax, aZ, bg, hF⟩ := hJ; exact ⟨hno, U'.ag af, ae.ai U', U'.ag pq, U'.ag ah, U'.ag ax, U'.ag aZ, U'.ag bg, hF.go0 U'⟩) (fun w' w'' hX U' => by obtain ⟨h_x, ax, aZ, hF⟩ := hX; exact ⟨U'.ag h_x, U'.ag ax, U'.ag aZ, hF.go0 U'⟩) (fun _ => rfl) (fun _ => hcw) (fun _ _ => rfl) hN hb ?_ ?_) ?_
 intro k qj xk hx hI
 obtain ⟨hno, af, ae, pq, ah, ax, aZ, bg, hF⟩ := hI
 have hk := (List.getElem?_eq_some_iff.1 hx).1
 have hsl := Gs.pR cs
 refine hY [.agg (Gs.fv (Gs.je cs xk)).toArray] _ _ rfl bg ?_
 simp only [List.getD_cons_zero, List.getD_cons_succ]
 refine Z.n ((Gs.fv Gs.zf).toArray) (fun b5 w5 e5 bV _ U5 => ?_)
 have lq : bp ≠ b5 := by have := au af; omega
 have kD := ae.apart e5
 have MJ : b1_5 ≠ b5 := by have := au pq; omega
 have ik : b1 ≠ b5 := by have := au ah; omega
 have mY : b2 ≠ b5 := by have := au ax; omega
 have BZ : D2 ≠ b5 := by have := au aZ; omega
 have Cb : l2 ≠ b5 := by have := au bg; omega
 have iF : w.heap.size ≤ b5 := by have := hF.size; omega
 refine Z.t 3 ((Gs.fv (Gs.je cs xk)).toArray) (by (simp [Value.cells, Value.oneCell', Gs.cv, Gs.fv]; done)) bV (fun w6 bV _ U6 => ?_)
 replace bg := U6.ak (U5.ag bg) Cb
 refine wM bg (fun w7 bg _ U7 => ?_)
 refine Z.f 1 ?_
 replace bV := U7.ak bV (Ne.symm Cb)
 refine Z.l bV ?_
 refine ay (gtr _ _ _ _) (fun h8 => ?_) (fun h8 => ?_)
 refine bD ?_
 refine Z.f 2 ?_
 refine bD ?_
 refine Z.l bV ?_
 refine bD ?_
 refine dS (mW (Gs.SN hcw xk)) (fun w9 U9 h9 => ?_) (fun w9 U9 h9 => ?_)
 simp only [Z.d, Z.c] at h9
 refine bD ?_
 refine aj (lX) ?_
 refine bu (aB ?_)
 replace bg := U9.ag bg
 refine rP bg (fun w10 bg _ aT => ?_)
 replace ae := ((((ae.ai U5).aA U6 kD).aA U7 fD).ai U9).aA aT fD
 replace af := aT.ak (U9.ag (U7.ak (U6.ak (U5.ag af) lq) iE)) iE
 replace pq := aT.ak (U9.ag (U7.ak (U6.ak (U5.ag pq) MJ) AZ)) AZ
 replace ah := aT.ak (U9.ag (U7.ak (U6.ak (U5.ag ah) ik) iJ)) iJ
 replace ax := aT.ak (U9.ag (U7.ak (U6.ak (U5.ag ax) mY) gW)) gW
 replace aZ := aT.ak (U9.ag (U7.ak (U6.ak (U5.ag aZ) BZ) fQ)) fQ
 replace hF := ((((hF.go0 U5).go1 U6 iF).go1 U7 jK).go0 U9).go1 aT jK
 exact ⟨(Gs.MK hno hx (Gs.ahu (by assumption))), af, ae, pq, ah, ax, aZ, bg, hF⟩
 simp only [Z.d, Z.c] at h9
 refine bD ?_
 refine aj (mV) ?_
 refine bu (aH ?_)
 refine dQ (S := no) (fun oz bK => ?_)
 replace ah := bK.ag (U9.ag (U7.ak (U6.ak (U5.ag ah) ik) iJ))
 refine Z.m ah ?_
 replace ae := ((((ae.ai U5).aA U6 kD).aA U7 fD).ai U9).ai bK
 replace af := bK.ag (U9.ag (U7.ak (U6.ak (U5.ag af) lq) iE))
 refine fU (fun w' hw' => by have af := hw'.ag af; have ae := ae.ai hw'; exact ku af ae rfl) ?_
 refine Z.g 0 ?_
 replace bV := bK.ag (U9.ag bV)
 refine Z.m bV ?_
 refine fU (fun w' hw' => mO (i := (xk : Int)) (j := 1)) ?_
 rw [hN, Gs.rQ (by omega), Gs.ahv hno hx (Gs.ahw (by assumption) (by assumption))]
 refine aF (fun sJ dw => ?_)
 replace ax := dw.ag (bK.ag (U9.ag (U7.ak (U6.ak (U5.ag ax) mY) gW)))
 refine Z.s ax (fun uN ax _ dH => ?_)
 refine aF (fun w16 bZ => ?_)
 replace bg := bZ.ag (dH.ak (dw.ag (bK.ag (U9.ag bg))) (Ne.symm gW))
 refine aoC bg (fun uo bg _ bY => ?_)
 replace aZ := bY.ak (bZ.ag (dH.ak (dw.ag (bK.ag (U9.ag (U7.ak (U6.ak (U5.ag aZ) BZ) fQ)))) (Ne.symm uf))) fQ
 replace hF := ((((((((hF.go0 U5).go1 U6 iF).go1 U7 jK).go0 U9).go0 bK).go0 dw).go1 dH fF).go0 bZ).go1 bY jK
 replace ax := bY.ak (bZ.ag ax) gW
 exact ⟨bg, ax, aZ, hF⟩
 refine bf (bf (bf (bf (bG (aB ?_)))))
 refine rP bg (fun uY bg _ dE => ?_)
 replace ae := (((ae.ai U5).aA U6 kD).aA U7 fD).aA dE fD
 replace af := dE.ak (U7.ak (U6.ak (U5.ag af) lq) iE) iE
 replace pq := dE.ak (U7.ak (U6.ak (U5.ag pq) MJ) AZ) AZ
 replace ah := dE.ak (U7.ak (U6.ak (U5.ag ah) ik) iJ) iJ
 replace ax := dE.ak (U7.ak (U6.ak (U5.ag ax) mY) gW) gW
 replace aZ := dE.ak (U7.ak (U6.ak (U5.ag aZ) BZ) fQ) fQ
 replace hF := (((hF.go0 U5).go1 U6 iF).go1 U7 jK).go1 dE jK
 exact ⟨(Gs.MK hno hx (Gs.ahx (by assumption))), af, ae, pq, ah, ax, aZ, bg, hF⟩
 exact ⟨(Gs.ahy _), af, ae, pq, ah, ax, aZ, bg, hF⟩
 rintro e wE2 ⟨hv, hI | hI⟩
 obtain ⟨hno, af, ae, pq, ah, ax, aZ, bg, hF⟩ := hI
 refine ⟨hv, .inl ⟨bg, fun yK _ eu => ?_⟩⟩
 refine hJ1 _ _ ?_
 replace ax := eu.ak ax gW
 replace aZ := eu.ak aZ fQ
 replace hF := hF.go1 eu jK
 exact ⟨_, (by rfl), nG, aZ, hno, ax, hF⟩
 obtain ⟨h_x, ax, aZ, hF⟩ := hI
 refine ⟨hv, .inr ⟨0, _, List.mem_singleton.2 rfl, h_x, fun wE _ dJ => ?_⟩⟩
 replace aZ := dJ.ak aZ fQ
 refine leave1 aZ (fun ED _ fB => ?_)
 replace ax := fB.ak (dJ.ak ax gW) uf
 refine yS (kK (by kernel_rfl) ax (by rfl)) ?_
 replace hF := (hF.go1 dJ jK).go1 fB nG
 exact ⟨rfl, hF⟩
 replace hF := hF.go0 U2
 obtain ⟨D2, g1000000, nG, aZ, hno, ax, hF⟩ := hI
 rw [g1000000]
 refine Z.s ax (fun AB ax _ eF => ?_)
 replace aZ := eF.ak aZ (by exact X0 (by assumption) (by assumption))
 refine leave1 aZ (fun Hy _ iD => ?_)
 replace ax := iD.ak ax (by exact JD (by assumption) (by assumption))
 refine yS (kK (by kernel_rfl) ax (by rfl)) ?_
 replace hF := (hF.go1 eF fF).go1 iD nG
 rw [Gs.abJ hno]; exact ⟨rfl, hF⟩
end Go.Proofs.YtjdoakbadehicaaGreatDoor
end
section
namespace Gs
open Go
structure Inb where
 iK : Int
 alone : Bool
 cur : Int
 items : List (Int × List Cell)
deriving DecidableEq
def fG (b : Int) : Bool := decide (64 ≤ b) || decide (b = 0 ∨ b = 12 ∨ b = 13 ∨ b = 21 ∨ b = 25 ∨ b = 28 ∨ b = 30 ∨ b = 63)
def uH (a b : Int) : Int := if a < 64 then 256 * a + b else 64 * (a % 64) + b % 64
def uh : List Int → Except Int (Cell × List Int)
 | [] => .error 20
 | c :: r => if fG c = true then .ok (⟨c, false, false, 0, 0⟩, r) else if c ≠ 8 then .error 21 else
  match r with
  | [] => .error 20
  | d :: r' => if d < 64 then .error 21 else .ok (⟨d, true, false, 0, 0⟩, r')
theorem zZ {l : List Int} {x : Cell} {r : List Int} (h : uh l = .ok (x, r)) : r.length < l.length := by
 unfold uh at h
 split at h
 ·cases h
 ·split at h
  ·cases h; simp
  ·split at h
   ·cases h
   ·split at h
    ·cases h
    ·split at h
     ·cases h
     ·cases h; simp; omega
def iP (l : List Int) : Except Int (List Cell × List Int) :=
 if l.head? = none ∨ l.head? = some 17 then .ok ([], l) else
 match h : uh l with
 | .error e => .error e
 | .ok (x, r) => match iP r with | .error e => .error e | .ok (xs, r') => .ok (x :: xs, r')
termination_by l.length
decreasing_by exact zZ h
theorem Bc : ∀ {l : List Int} {xs : List Cell} {r : List Int}, iP l = .ok (xs, r) → r.length ≤ l.length ∧ (r.head? = none ∨ r.head? = some 17) ∧ (xs = [] → r = l) ∧ (xs ≠ [] → r.length < l.length)
 | l, xs, r, h => by
  unfold iP at h
  split at h
  ·rename_i hh; cases h; exact ⟨Nat.le_refl _, hh, fun _ => rfl, fun h => absurd rfl h⟩
  ·split at h
   ·cases h
   ·rename_i x r1 h1
    split at h
    ·cases h
    ·rename_i xs2 r2 h2
     cases h
     have hl := zZ h1
     have := Bc h2
     exact ⟨by omega, this.2.1, (fun h => by cases h), fun _ => by omega⟩
termination_by l => l.length
decreasing_by assumption
def kP : List Int → Except Int (Int × List Int)
 | a :: b :: r => .ok (uH a b, r)
 | _ => .error 20
def qg (l : List Int) : Except Int ((Int × List Cell) × List Int) :=
 if l.head? = some 17 then
  match kP l.tail with
  | .error e => .error e
  | .ok (p, r) => match iP r with | .error e => .error e | .ok (xs, r') => .ok ((p, xs), r')
 else match iP l with | .error e => .error e | .ok (xs, r') => .ok ((-1, xs), r')
theorem yx {l : List Int} {p : Int} {r : List Int} (h : kP l = .ok (p, r)) : r.length + 2 = l.length := by
 unfold kP at h
 split at h
 ·cases h; rfl
 ·cases h
theorem PO {l : List Int} {x : Int × List Cell} {r : List Int} (hl : l ≠ []) (h : qg l = .ok (x, r)) : r.length < l.length := by
 unfold qg at h
 split at h
 ·split at h
  ·cases h
  ·rename_i h1
   split at h
   ·cases h
   ·rename_i h2
    cases h
    have a := yx h1
    have b := (Bc h2).1
    have : l.tail.length < l.length := by cases l; exact absurd rfl hl; simp
    omega
 ·rename_i hh
  split at h
  ·cases h
  ·rename_i xs r1 h2
   cases h
   have b := Bc h2
   refine b.2.2.2 (fun hx => ?_)
   have hr := b.2.2.1 hx
   rw [hr] at b
   rcases b.2.1 with h3 | h3
   ·exact hl (by cases l; rfl; simp at h3)
   ·exact hh h3
def jh (l : List Int) : Except Int (List (Int × List Cell)) :=
 if hl : l = [] then .ok [] else
 match h : qg l with
 | .error e => .error e
 | .ok (x, r) => match jh r with | .error e => .error e | .ok xs => .ok (x :: xs)
termination_by l.length
decreasing_by exact PO hl h
def sK : List Int → Except Int Inb
 | [] => .error 20
 | a :: r => if r = [] then .ok ⟨a, true, 0, []⟩ else
  match kP r with
  | .error e => .error e
  | .ok (c, r') => match jh r' with | .error e => .error e | .ok xs => .ok ⟨a, false, c, xs⟩
def ajc : Inb := ⟨0, false, 0, []⟩
def KE (l : List Int) : Inb := match sK l with | .ok x => x | .error _ => ajc
def Yj {α : Type} (r : Except Int α) : Int := match r with | .ok _ => 0 | .error e => e
def lY (v : Int) : Int := let v := v % 64; if (1 ≤ v % 16 ∧ v % 16 ≤ 9 ∧ v ≠ 33) ∨ v = 48 then 192 + v else 64 + v
def qV (p n : Int) : Option (Int × Int) :=
 if n < 1 ∨ 16384 < n ∨ p < 0 ∨ n ≤ p then none else if 4096 < n then some (p / 256, p % 256) else some (lY (p / 64), lY p)
def OD (c : Cell) : Bool := !c.st && decide (c.l = 0) && decide (c.c = 0) && (if c.ge then decide (64 ≤ c.b) else fG c.b)
def cellW (c : Cell) : List Int := if c.ge then [8, c.b] else [c.b]
def vO : List Cell → Except Int (List Int)
 | [] => .ok []
 | c :: cs => if OD c = true then (match vO cs with | .error e => .error e | .ok l => .ok (cellW c ++ l)) else .error 21
def Jo (x : Int × List Cell) (first : Bool) (n : Int) : Except Int (List Int) :=
 if x.1 ≠ -1 ∨ first = false then
  match qV x.1 n with
  | none => .error 32
  | some (a, b) => match vO x.2 with | .error e => .error e | .ok l => .ok (17 :: a :: b :: l)
 else vO x.2
def sS (n : Int) : Bool → List (Int × List Cell) → Except Int (List Int)
 | _, [] => .ok []
 | f, x :: xs => match Jo x f n with
  | .error e => .error e
  | .ok l => match sS n false xs with | .error e => .error e | .ok k => .ok (l ++ k)
def writeM (i : Inb) (n : Int) : Except Int (List Int) :=
 if i.alone then .ok [i.iK] else
 match qV i.cur n with
 | none => .error 32
 | some (a, b) => match sS n true i.items with | .error e => .error e | .ok l => .ok (i.iK :: a :: b :: l)
end Gs
end
section
namespace Gs
open Go
theorem OB (d : Int) (r : List Int) : uh (8 :: d :: r) = if d < 64 then .error 21 else .ok (⟨d, true, false, 0, 0⟩, r) := rfl
theorem Xe {c : Int} (h : fG c = true) (r : List Int) : uh (c :: r) = .ok (⟨c, false, false, 0, 0⟩, r) := if_pos h
theorem aej (a b : Int) (r : List Int) : qg (17 :: a :: b :: r) = match iP r with | .error e => .error e | .ok (xs, r') => .ok ((uH a b, xs), r') := rfl
theorem ab6 (a b c : Int) (r : List Int) : sK (a :: b :: c :: r) = match jh r with | .error e => .error e | .ok xs => .ok ⟨a, false, uH b c, xs⟩ := rfl
theorem TJ (v : Int) : 64 ≤ lY v ∧ lY v ≤ 255 ∧ lY v % 64 = v % 64 := by
 unfold lY
 dsimp only
 split <;> omega
theorem OC {p n a b : Int} (h : qV p n = some (a, b)) : uH a b = p ∧ 0 ≤ a ∧ a ≤ 255 ∧ 0 ≤ b ∧ b ≤ 255 ∧ 0 ≤ p := by
 unfold qV at h
 split at h
 ·cases h
 ·split at h
  ·cases h
   unfold uH
   rw [if_pos (by omega)]
   omega
  ·cases h
   have h1 := TJ (p / 64)
   have h2 := TJ p
   unfold uH
   rw [if_neg (by omega)]
   omega
theorem aek {c : Cell} (h : OD c = true) : c = ⟨c.b, c.ge, false, 0, 0⟩ ∧ (c.ge = true → 64 ≤ c.b) ∧ (c.ge = false → fG c.b = true) := by
 obtain ⟨b, ge, st, l, co⟩ := c
 cases ge <;> cases st <;> simp_all [OD]
theorem Xl {c : Cell} (h : OD c = true) (r : List Int) : uh (cellW c ++ r) = .ok (c, r) ∧ (cellW c ++ r).head? ≠ none ∧ (cellW c ++ r).head? ≠ some 17 := by
 obtain ⟨h1, h2, h3⟩ := aek h
 cases hg : c.ge with
 | false =>
  have hp := h3 hg
  have hw : cellW c = [c.b] := by unfold cellW; rw [hg]; rfl
  rw [hw]
  refine ⟨?_, by simp, ?_⟩
  ·rw [hg] at h1
   rw [List.cons_append, Xe hp, ← h1]
   rfl
  ·show some c.b ≠ some 17
   intro e
   rw [Option.some.inj e] at hp
   exact absurd hp (by decide)
 | true =>
  have hw : cellW c = [8, c.b] := by unfold cellW; rw [hg]; rfl
  rw [hw]
  refine ⟨?_, by simp, by simp⟩
  rw [hg] at h1
  rw [List.cons_append, List.cons_append, OB, if_neg (by have := h2 hg; omega), ← h1]
  rfl
theorem KU : ∀ {xs : List Cell} {l : List Int}, vO xs = .ok l → ∀ r : List Int, (r.head? = none ∨ r.head? = some 17) → iP (l ++ r) = .ok (xs, r)
 | [], l, h, r, hr => by
  cases h
  unfold iP
  rw [List.nil_append, if_pos hr]
 | c :: cs, l, h, r, hr => by
  unfold vO at h
  split at h
  ·rename_i hm
   split at h
   ·cases h
   ·rename_i k hk
    cases h
    have h1 := Xl hm (k ++ r)
    have h2 := KU hk r hr
    rw [List.append_assoc]
    unfold iP
    rw [if_neg (by rintro (e | e); exact h1.2.1 e; exact h1.2.2 e)]
    split
    ·rename_i e he; rw [h1.1] at he; cases he
    ·rename_i x r1 he
     rw [h1.1] at he
     cases he
     rw [h2]
  ·cases h
theorem VR {xs : List Cell} {l : List Int} (h : vO xs = .ok l) (hx : xs ≠ []) : l.head? ≠ none ∧ l.head? ≠ some 17 := by
 cases xs with
 | nil => exact absurd rfl hx
 | cons c cs =>
  unfold vO at h
  split at h
  ·rename_i hm
   split at h
   ·cases h
   ·rename_i k hk; cases h; exact (Xl hm k).2
  ·cases h
theorem Gf {n : Int} : ∀ {xs : List (Int × List Cell)} {l : List Int}, sS n false xs = .ok l → jh l = .ok xs ∧ (l.head? = none ∨ l.head? = some 17)
 | [], l, h => by cases h; exact ⟨by unfold jh; rw [dif_pos rfl], .inl rfl⟩
 | x :: xs, l, h => by
  unfold sS at h
  split at h
  ·cases h
  ·rename_i m hm
   split at h
   ·cases h
   ·rename_i k hk
    cases h
    have ih := Gf hk
    unfold Jo at hm
    rw [if_pos (.inr rfl)] at hm
    split at hm
    ·cases hm
    ·rename_i a b he
     split at hm
     ·cases hm
     ·rename_i cs hcs
      cases hm
      have hd := OC he
      refine ⟨?_, .inr rfl⟩
      have hi : qg (17 :: a :: b :: cs ++ k) = .ok (x, k) := by
       rw [show 17 :: a :: b :: cs ++ k = 17 :: a :: b :: (cs ++ k) from rfl, aej, KU hcs k ih.2, hd.1]
      unfold jh
      rw [dif_neg (by simp)]
      split
      ·rename_i e he2; rw [hi] at he2; cases he2
      ·rename_i y r1 he2
       rw [hi] at he2
       cases he2
       rw [ih.1]
def aaf : List (Int × List Cell) → List (Int × List Cell)
 | [] => []
 | x :: xs => if x.1 = -1 ∧ x.2 = [] then xs else x :: xs
def aag (i : Inb) : Inb := if i.alone = true then ⟨i.iK, true, 0, []⟩ else ⟨i.iK, false, i.cur, aaf i.items⟩
theorem VS {n : Int} {xs : List (Int × List Cell)} {l : List Int} (h : sS n true xs = .ok l) : jh l = .ok (aaf xs) := by
 cases xs with
 | nil => cases h; unfold jh; rw [dif_pos rfl]; rfl
 | cons x xs =>
  by_cases hx : x.1 = -1
  ·unfold sS at h
   split at h
   ·cases h
   ·rename_i m hm
    split at h
    ·cases h
    ·rename_i k hk
     cases h
     have ih := Gf hk
     unfold Jo at hm
     rw [if_neg (by rintro (e | e); exact e hx; cases e)] at hm
     by_cases hc : x.2 = []
     ·rw [hc] at hm
      cases hm
      show jh k = .ok (if x.1 = -1 ∧ x.2 = [] then xs else x :: xs)
      rw [if_pos ⟨hx, hc⟩]
      exact ih.1
     ·show jh (m ++ k) = .ok (if x.1 = -1 ∧ x.2 = [] then xs else x :: xs)
      rw [if_neg (fun e => hc e.2)]
      have hh := VR hm hc
      have hne : m ++ k ≠ [] := by intro e; cases m; exact hh.1 rfl; cases e
      have hhd : (m ++ k).head? = m.head? := by cases m; exact absurd rfl hh.1; rfl
      have hi : qg (m ++ k) = .ok (x, k) := by
       unfold qg
       rw [if_neg (by rw [hhd]; exact hh.2), KU hm k ih.2, ← hx]
      unfold jh
      rw [dif_neg hne]
      split
      ·rename_i e he2; rw [hi] at he2; cases he2
      ·rename_i y r1 he2
       rw [hi] at he2
       cases he2
       rw [ih.1]
  ·have h2 : sS n false (x :: xs) = .ok l := by
    rw [← h]
    unfold sS Jo
    rw [if_pos (.inl hx), if_pos (.inl hx)]
   have := (Gf h2).1
   show jh l = .ok (if x.1 = -1 ∧ x.2 = [] then xs else x :: xs)
   rw [if_neg (fun e => hx e.1)]
   exact this
theorem ajT {i : Inb} {n : Int} {l : List Int} (h : writeM i n = .ok l) : sK l = .ok (aag i) := by
 unfold writeM at h
 unfold aag
 split at h
 ·rename_i ha; cases h; rw [if_pos ha]; rfl
 ·rename_i ha
  rw [if_neg ha]
  split at h
  ·cases h
  ·rename_i a b he
   split at h
   ·cases h
   ·rename_i k hk
    cases h
    have hd := OC he
    rw [ab6, VS hk, hd.1]
def byL (l : List Int) : Prop := ∀ x ∈ l, 0 ≤ x ∧ x ≤ 255
theorem byL.tail {a : Int} {l : List Int} (h : byL (a :: l)) : byL l := fun x hx => h x (List.mem_cons_of_mem _ hx)
end Gs
namespace Gs
open Go
def ru (c : Cell) : Cell := if c.st then ⟨c.b % 64, false, true, 0, 0⟩ else ⟨if c.ge then (if c.b < 64 then 64 else c.b) else (if fG c.b = true then c.b else 64), c.ge, false, 0, 0⟩
def jT (c : Cell) : Bool := decide (c.b = 0) && !c.ge
def nP (c : Cell) : List Int := if c.ge then (if c.b < 64 then [8, 64] else [8, c.b]) else (if fG c.b = true then [c.b] else [64])
theorem ab8 {c : Cell} (h : c.st = false) : OD (ru c) = true ∧ cellW (ru c) = nP c := by
 obtain ⟨b, ge, st, l, co⟩ := c
 cases h
 unfold ru nP cellW OD
 cases ge
 ·dsimp only
  by_cases hp : fG b = true
  ·simp [hp]
  ·simp [hp]; decide
 ·by_cases hp : b < 64
  ·simp [hp]
  ·simp [hp]; omega
def lC (cs : List Cell) (l : List Int) : List Int := ((l.map (bJ cs)).filter fun c => !jT c).flatMap nP
def pY (cs : List Cell) (l : List Int) : List Cell := ((l.map (bJ cs)).filter fun c => !jT c).map ru
theorem TK {l : List Cell} (h : ∀ c ∈ l, c.st = false) : vO (l.map ru) = .ok (l.flatMap nP) := by
 induction l with
 | nil => rfl
 | cons c l ih =>
  have h1 := ab8 (h c (by simp))
  rw [List.map_cons, List.flatMap_cons]
  unfold vO
  rw [if_pos h1.1, ih (fun d hd => h d (by simp [hd])), h1.2]
theorem JL {cs : List Cell} {l : List Int} (h : ∀ i ∈ l, (bJ cs i).st = false) : vO (pY cs l) = .ok (lC cs l) := by
 refine TK fun c hc => ?_
 have := (List.mem_filter.1 hc).1
 obtain ⟨i, hi, rfl⟩ := List.mem_map.1 this
 exact h i hi
end Gs
end
section
namespace Gs
open Go
theorem anD (v : Int) : lY (v % 64) = lY v := by
 unfold lY
 rw [Int.emod_emod_of_dvd v (by decide : (64 : Int) ∣ 64)]
def mD (p n : Int) : Int × Int × Int := match qV p n with | none => (0, 0, 1) | some (a, b) => (a, b, 0)
theorem FX {p n : Int} (h : n < 1 ∨ 16384 < n ∨ p < 0 ∨ n ≤ p) : mD p n = (0, 0, 1) := by unfold mD qV; rw [if_pos h]
theorem ad1 {p n : Int} (h : ¬ (n < 1 ∨ 16384 < n ∨ p < 0 ∨ n ≤ p)) (h2 : 4096 < n) : mD p n = (p / 256, p % 256, 0) := by unfold mD qV; rw [if_neg h, if_pos h2]
theorem ZY {p n : Int} (h : ¬ (n < 1 ∨ 16384 < n ∨ p < 0 ∨ n ≤ p)) (h2 : ¬ 4096 < n) : mD p n = (lY (p / 64), lY p, 0) := by unfold mD qV; rw [if_neg h, if_neg h2]
theorem ahH (p n : Int) : 0 ≤ (mD p n).1 ∧ (mD p n).1 ≤ 255 ∧ 0 ≤ (mD p n).2.1 ∧ (mD p n).2.1 ≤ 255 := by
 unfold mD
 split
 ·decide
 ·rename_i a b h
  have := OC h
  dsimp only
  omega
theorem ad2 {b : Int} (h : ¬ (b = 0 ∨ b = 12 ∨ b = 13 ∨ b = 21 ∨ b = 25 ∨ b = 28 ∨ b = 30 ∨ b = 63)) : fG b = decide (64 ≤ b) := by
 unfold fG; rw [decide_eq_false h, Bool.or_false]
theorem ZZ {b : Int} (h : b = 0 ∨ b = 12 ∨ b = 13 ∨ b = 21 ∨ b = 25 ∨ b = 28 ∨ b = 30 ∨ b = 63) : fG b = true := by
 unfold fG; rw [decide_eq_true h, Bool.or_true]
def lg (b : Int) : Int := if 241 ≤ b ∧ b ≤ 249 then b - 240 else if 122 ≤ b ∧ b ≤ 124 then b - 112 else if 193 ≤ b ∧ b ≤ 201 then b - 180 else if 74 ≤ b ∧ b ≤ 76 then b - 52 else 0
def zg (b : Int) : ByteArray := if b = 125 then ⟨#[69, 78, 84, 69, 82]⟩ else if b = 109 then ⟨#[67, 76, 69, 65, 82]⟩ else if b = 108 then ⟨#[80, 65, 49]⟩ else if b = 110 then ⟨#[80, 65, 50]⟩ else if b = 107 then ⟨#[80, 65, 51]⟩ else ⟨#[]⟩
def yu (n : Int) : ByteArray := ⟨(Lib.itoa n).toArray⟩
def zh (b : Int) : ByteArray := if 0 < lg b then ⟨#[80, 70]⟩ ++ yu (lg b) else zg b
theorem Xc (b : Int) : 0 ≤ lg b ∧ lg b ≤ 24 := by unfold lg; split <;> (try split) <;> (try split) <;> (try split) <;> omega
theorem PM (n : Nat) : yu n = ⟨(Lib.decDigits n).toArray⟩ := by unfold yu; rw [Lib.itoa_nonneg]
def OA : ByteArray := ⟨#[48, 49, 50, 51, 52, 53, 54, 55, 56, 57, 65, 66, 67, 68, 69, 70]⟩
def hexS (b : Int) : ByteArray := OA.extract (b / 16).toNat (b / 16 + 1).toNat ++ OA.extract (b % 16).toNat (b % 16 + 1).toNat
def Dz (b : Int) : ByteArray := if zh b = ⟨#[]⟩ then hexS b else zh b
theorem PN {b : Int} (h : 0 ≤ b) : (OA.extract (b / 16).toNat (b / 16 + 1).toNat).size + (OA.extract (b % 16).toNat (b % 16 + 1).toNat).size ≤ 2 := by
 rw [ByteArray.size_extract, ByteArray.size_extract]; omega
theorem MZ {b : Int} (h : 0 ≤ b ∧ b ≤ 255) : (Dz b).size ≤ 100 := by
 unfold Dz
 split
 ·unfold hexS; rw [ByteArray.size_append]; have := PN h.1; omega
 ·unfold zh
  split
  ·rw [ByteArray.size_append]
   have hb := Xc b
   obtain ⟨n, hn⟩ := Int.eq_ofNat_of_zero_le hb.1
   rw [hn, PM]
   have : ∀ i : Fin 25, (Lib.decDigits i.val).length ≤ 2 := by decide +kernel
   have h2 := this ⟨n, by omega⟩
   have h3 : (⟨#[80, 70]⟩ : ByteArray).size = 2 := rfl
   have h4 : (⟨(Lib.decDigits n).toArray⟩ : ByteArray).size = (Lib.decDigits n).length := Sh.KT _
   dsimp only at h2
   omega
  ·unfold zg
   split
   ·decide
   ·split
    ·decide
    ·split
     ·decide
     ·split
      ·decide
      ·split <;> decide
end Gs
namespace Gs
open Go
theorem Tq {page : Int} {c : Cell} (h : c.st = true ∨ (c.ge = false ∧ ¬ (64 ≤ c.b ∧ c.b ≤ 254))) : (⟨#[32]⟩ : ByteArray) = Utf8.encode (uS page c) := by
 have : uS page c = 32 := by
  rcases h with h | ⟨h, h2⟩
  ·exact TI h
  ·by_cases hs : c.st = true
   ·exact TI hs
   ·unfold uS; rw [if_neg hs, if_neg (by rw [h]; decide), if_neg h2]
 rw [this]; rfl
theorem VO {n : Int} (h : 0 ≤ n ∧ n < 100) : (yu n).size ≤ 21 := by
 unfold yu
 rw [Sh.KT]
 exact Lib.itoa_length_le n (by omega) (by omega)
theorem F5 {n : Int} (h : -9223372036854775808 ≤ n ∧ n ≤ 9223372036854775807) : (yu n).size ≤ 21 := by
 unfold yu
 rw [Sh.KT]
 exact Lib.itoa_length_le n h.1 h.2
end Gs
namespace Go.Sh
open Go
variable {P : Program} {w : World} {R : Ending → World → Prop} {K : Value → World → Prop}
end Go.Sh
end
section
namespace Go.Sh
open Go
variable {P : Program} {w : World}
theorem aog (t : TypeId) (x : Int) : (binOp .shr t (.int .i64 x) (.int .u64 6)).run P w = .ok (.int .i64 (x / 64)) w := by
 have h : (binOp .shr t (.int .i64 x) (.int .u64 6)).run P w = (Op.shift .shr .i64 x .u64 6).run P w := rfl
 rw [h, shift_shr _ _ _ _ (by decide) (by decide)]; rfl
theorem aoh (t : TypeId) (x : Int) : (binOp .shr t (.int .i64 x) (.int .u64 8)).run P w = .ok (.int .i64 (x / 256)) w := by
 have h : (binOp .shr t (.int .i64 x) (.int .u64 8)).run P w = (Op.shift .shr .i64 x .u64 8).run P w := rfl
 rw [h, shift_shr _ _ _ _ (by decide) (by decide)]; rfl
theorem afo (t : TypeId) (x : Int) : (binOp .shr t (.int .u8 x) (.int .u64 4)).run P w = .ok (.int .u8 (x / 16)) w := by
 have h : (binOp .shr t (.int .u8 x) (.int .u64 4)).run P w = (Op.shift .shr .u8 x .u64 4).run P w := rfl
 rw [h, shift_shr _ _ _ _ (by decide) (by decide)]; rfl
theorem aoi (t : TypeId) {x : Int} (h0 : 0 ≤ x ∧ x ≤ 65535) : (binOp .shl t (.int .i64 x) (.int .u64 6)).run P w = .ok (.int .i64 (x * 64)) w := by
 have h : (binOp .shl t (.int .i64 x) (.int .u64 6)).run P w = (Op.shift .shl .i64 x .u64 6).run P w := rfl
 rw [h, shift_shl _ _ _ _ (by decide) (by decide)]
 show Result.ok (Value.int .i64 (IntKind.i64.wrap (x * 64))) w = _
 rw [wrap_i64 (by omega) (by omega)]
theorem ai0 (t : TypeId) {x : Int} (h0 : 0 ≤ x ∧ x ≤ 65535) : (binOp .shl t (.int .i64 x) (.int .u64 8)).run P w = .ok (.int .i64 (x * 256)) w := by
 have h : (binOp .shl t (.int .i64 x) (.int .u64 8)).run P w = (Op.shift .shl .i64 x .u64 8).run P w := rfl
 rw [h, shift_shl _ _ _ _ (by decide) (by decide)]
 show Result.ok (Value.int .i64 (IntKind.i64.wrap (x * 256))) w = _
 rw [wrap_i64 (by omega) (by omega)]
theorem abj {x y : Int} (j : Nat) (hx : 0 ≤ x) (hd : x % ((2 ^ j : Nat) : Int) = 0) (hy : 0 ≤ y) (hy2 : y < ((2 ^ j : Nat) : Int)) (hb : x + y ≤ 9223372036854775807) : bits .or .i64 x y = x + y := by
 obtain ⟨a, rfl⟩ := Int.eq_ofNat_of_zero_le hx
 obtain ⟨b, rfl⟩ := Int.eq_ofNat_of_zero_le hy
 have hd' : a % 2 ^ j = 0 := by exact_mod_cast hd
 have hb' : b < 2 ^ j := by exact_mod_cast hy2
 have e64 : ((2 ^ IntKind.i64.bits : Nat) : Int) = 18446744073709551616 := by decide
 have key : (BitVec.ofInt IntKind.i64.bits (a : Int) ||| BitVec.ofInt IntKind.i64.bits (b : Int)).toNat = a + b := by
  rw [BitVec.toNat_or, BitVec.toNat_ofInt, BitVec.toNat_ofInt, e64]
  rw [Int.emod_eq_of_lt (by omega) (by omega), Int.emod_eq_of_lt (by omega) (by omega), Int.toNat_natCast, Int.toNat_natCast]
  have h1 := Nat.shiftLeft_add_eq_or_of_lt hb' (a / 2 ^ j)
  rw [Nat.shiftLeft_eq, Nat.div_mul_cancel (Nat.dvd_of_mod_eq_zero hd')] at h1
  exact h1.symm
 show IntKind.i64.wrap (((BitVec.ofInt IntKind.i64.bits (a : Int) ||| BitVec.ofInt IntKind.i64.bits (b : Int)).toNat : Nat) : Int) = _
 rw [key, wrap_i64 (by omega) (by omega)]
 omega
theorem Pm (t : TypeId) {x y : Int} (h : 0 ≤ x ∧ x % 64 = 0 ∧ x ≤ 4294967296) (hy : 0 ≤ y ∧ y < 64) : (binOp .or t (.int .i64 x) (.int .i64 y)).run P w = .ok (.int .i64 (x + y)) w := by
 rw [orB, abj 6 h.1 h.2.1 hy.1 hy.2 (by omega)]
theorem or8 (t : TypeId) {x y : Int} (h : 0 ≤ x ∧ x % 256 = 0 ∧ x ≤ 4294967296) (hy : 0 ≤ y ∧ y < 256) : (binOp .or t (.int .i64 x) (.int .i64 y)).run P w = .ok (.int .i64 (x + y)) w := by
 rw [orB, abj 8 h.1 h.2.1 hy.1 hy.2 (by omega)]
theorem ai1 (t : TypeId) (x : Int) : (binOp .and t (.int .i64 x) (.int .i64 63)).run P w = .ok (.int .i64 (x % 64)) w := by
 have := adz x 6 (by decide)
 have h : (binOp .and t (.int .i64 x) (.int .i64 63)).run P w = .ok (.int .i64 (bits .and .i64 x 63)) w := rfl
 rw [h, show (63 : Int) = ((2 ^ 6 - 1 : Nat) : Int) from rfl, this]; rfl
theorem abk {x : Int} (hx : 0 ≤ x ∧ x ≤ 255) : bits .and .u8 x 15 = x % 16 := wJ (p := fun x => bits .and .u8 x 15 = x % 16) (by decide +kernel) hx
theorem WG (t : TypeId) {x : Int} (hx : 0 ≤ x ∧ x ≤ 255) : (binOp .and t (.int .u8 x) (.int .u8 15)).run P w = .ok (.int .u8 (x % 16)) w := by rw [Ku, abk hx]
theorem Q9 {x : Int} (hx : 0 ≤ x ∧ x ≤ 255) : bits .andNot .u8 x 63 = x / 64 * 64 := wJ (p := fun x => bits .andNot .u8 x 63 = x / 64 * 64) (by decide +kernel) hx
theorem X3 (t : TypeId) {x : Int} (hx : 0 ≤ x ∧ x ≤ 255) : (binOp .andNot t (.int .u8 x) (.int .u8 63)).run P w = .ok (.int .u8 (x / 64 * 64)) w := by rw [WF, Q9 hx]
end Go.Sh
namespace Go.Sh
open Go
variable {P : Program} {w : World}
theorem ag8 {s t : TypeId} {k : IntKind} {n : Int} (hs : (yM P s).isSome = true) (ht : yM P t = some .u8) : (convert s t (.int k n)).run P w = .ok (.int .u8 (n % 256)) w := by
 rw [LJ hs ht, IntKind.wrap_u8]
end Go.Sh
end
section
namespace Go.Sh
open Go
variable {P : Program} {w : World}
theorem Vb {t : TypeId} (h : isStr P t = true) : P.underlying t = some .string := by
 unfold isStr at h
 split at h
 ·assumption
 ·cases h
theorem Xd {t : TypeId} {s : ByteArray} {k k' : IntKind} {l h : Int} (ht : isStr P t = true) (h0 : 0 ≤ l) (h1 : l ≤ h) (h2 : h ≤ s.size) : (Instr.sliceAt t (.string s) (some (.int k l)) (some (.int k' h)) none).run P w = .ok (.string (s.extract l.toNat h.toNat)) w := by
 rw [run_sliceAt_string _ _ _ _ _ _ (Vb ht)]; exact run_slice_string w t s k k' l h (Vb ht) h0 h1 h2
end Go.Sh
end
section
namespace Go.Proofs
open Go.Shelf
def Tryz.Va : Go.Shelf.Ren := ⟨fun | 171 => 77 | 243 => 128 | 246 => 156 | 283 => 174 | 284 => 175 | 285 => 176 | 286 => 177 | 129 => 193 | 317 => 192 | 318 => 194 | 319 => 195 | 320 => 196 | 337 => 202 | 338 => 203 | n => n, fun | 3 => 3 | 9 => 9 | 2 => 2 | 4 => 4 | 171 => 231 | 0 => 0 | 53 => 232 | 37 => 24 | 5 => 5 | 173 => 235 | 212 => 245 | 51 => 199 | 20 => 20 | 213 => 246 | 46 => 181 | 232 => 252 | 233 => 253 | n => n, fun | 17 => 1 | 18 => 2 | 19 => 3 | n => n⟩
theorem Tryz.laysM171 : Go.Proofs.LaysM.n171 Tryz.prog Tryz.Va := {
 mixed := by kernel_rfl
 f129 := Tryz.func193.trans (congrArg some (by kernel_rfl))
 f171 := Tryz.func77.trans (congrArg some (by kernel_rfl))
 f243 := Tryz.func128.trans (congrArg some (by kernel_rfl))
 f246 := Tryz.func156.trans (congrArg some (by kernel_rfl))
 f283 := Tryz.func174.trans (congrArg some (by kernel_rfl))
 f284 := Tryz.func175.trans (congrArg some (by kernel_rfl))
 f285 := Tryz.func176.trans (congrArg some (by kernel_rfl))
 f286 := Tryz.func177.trans (congrArg some (by kernel_rfl))
 f317 := Tryz.func192.trans (congrArg some (by kernel_rfl))
 f318 := Tryz.func194.trans (congrArg some (by kernel_rfl))
 f319 := Tryz.func195.trans (congrArg some (by kernel_rfl))
 f320 := Tryz.func196.trans (congrArg some (by kernel_rfl))
 f337 := Tryz.func202.trans (congrArg some (by kernel_rfl))
 f338 := Tryz.func203.trans (congrArg some (by kernel_rfl))
 t0 := Tryz.underlying0
 a0 := Tryz.isAgg0
 z0 := Tryz.sizeOf0
 v0 := Tryz.zeroValue0
 t2 := Tryz.underlying2
 a2 := Tryz.isAgg2
 z2 := Tryz.sizeOf2
 v2 := Tryz.zeroValue2
 t3 := Tryz.underlying3
 a3 := Tryz.isAgg3
 z3 := Tryz.sizeOf3
 v3 := Tryz.zeroValue3
 t4 := Tryz.underlying4
 a4 := Tryz.isAgg4
 z4 := Tryz.sizeOf4
 v4 := Tryz.zeroValue4
 t5 := Tryz.underlying5
 a5 := Tryz.isAgg5
 z5 := Tryz.sizeOf5
 v5 := Tryz.zeroValue5
 t9 := Tryz.underlying9
 a9 := Tryz.isAgg9
 z9 := Tryz.sizeOf9
 v9 := Tryz.zeroValue9
 t20 := Tryz.underlying20
 a20 := Tryz.isAgg20
 z20 := Tryz.sizeOf20
 v20 := Tryz.zeroValue20
 t37 := Tryz.underlying24
 a37 := Tryz.isAgg24
 z37 := Tryz.sizeOf24
 v37 := Tryz.zeroValue24
 t46 := Tryz.underlying181
 a46 := Tryz.isAgg181
 z46 := Tryz.sizeOf181
 v46 := Tryz.zeroValue181
 t51 := Tryz.underlying199
 a51 := Tryz.isAgg199
 z51 := Tryz.sizeOf199
 v51 := Tryz.zeroValue199
 t53 := Tryz.underlying232
 a53 := Tryz.isAgg232
 z53 := Tryz.sizeOf232
 v53 := Tryz.zeroValue232
 t171 := Tryz.underlying231
 a171 := Tryz.isAgg231
 z171 := Tryz.sizeOf231
 v171 := Tryz.zeroValue231
 t173 := Tryz.underlying235
 a173 := Tryz.isAgg235
 z173 := Tryz.sizeOf235
 v173 := Tryz.zeroValue235
 t212 := Tryz.underlying245
 a212 := Tryz.isAgg245
 z212 := Tryz.sizeOf245
 v212 := Tryz.zeroValue245
 t213 := Tryz.underlying246
 a213 := Tryz.isAgg246
 z213 := Tryz.sizeOf246
 t232 := Tryz.underlying252
 a232 := Tryz.isAgg252
 z232 := Tryz.sizeOf252
 v232 := Tryz.zeroValue252
 t233 := Tryz.underlying253
 a233 := Tryz.isAgg253
 z233 := Tryz.sizeOf253
 v233 := Tryz.zeroValue253
 g17 := by kernel_rfl
 g18 := by kernel_rfl
 g19 := by kernel_rfl
 i0 := by kernel_rfl
 i2 := by kernel_rfl
 i3 := by kernel_rfl
 i4 := by kernel_rfl
 i5 := by kernel_rfl
 i9 := by kernel_rfl
 i20 := by kernel_rfl
 i37 := by kernel_rfl
 i46 := by kernel_rfl
 i51 := by kernel_rfl
 i53 := by kernel_rfl
 i171 := by kernel_rfl
 i173 := by kernel_rfl
 i212 := by kernel_rfl
 i232 := by kernel_rfl
 i233 := by kernel_rfl
 m17 := by kernel_rfl
 m18 := by kernel_rfl
 m19 := by kernel_rfl }
open Go.RowKit Go.Sort Go.Lib in
theorem Tryz.strconv_Itoa (n : Int) (h0 : -9223372036854775808 ≤ n) (h1 : n ≤ 9223372036854775807) (w : World) (htab : Lib.TabIs Tryz.prog w "internal/strconv.uint64pow10" .u64 Lib.pow10Tab) :
  Calls Tryz.prog 77 #[.int .i64 n] w fun e w' => e = .returned (.string ⟨(Lib.itoa n).toArray⟩) ∧ ∃ k os, w' = grow (w.drewN k) os := Any.strconv_Itoa Tryz.laysM171 n h0 h1 w htab
def Tryz.Wv : Go.Shelf.Ren := ⟨fun | 171 => 77 | 243 => 128 | 246 => 156 | 283 => 174 | 284 => 175 | 285 => 176 | 286 => 177 | 129 => 193 | 317 => 192 | 318 => 194 | 319 => 195 | 320 => 196 | 337 => 202 | 338 => 203 | n => n, fun | 3 => 3 | 9 => 9 | 2 => 2 | 4 => 4 | 171 => 231 | 0 => 0 | 53 => 232 | 37 => 24 | 5 => 5 | 173 => 235 | 212 => 245 | 51 => 199 | 20 => 20 | 213 => 246 | 46 => 181 | 232 => 252 | 233 => 253 | n => n, fun | 17 => 1 | 18 => 2 | 19 => 3 | n => n⟩
theorem Tryz.lays171 : Go.Proofs.Lays.n171 Tryz.prog Tryz.Wv := {
 mixed := by kernel_rfl
 f129 := Tryz.func193.trans (congrArg some (by kernel_rfl))
 f171 := Tryz.func77.trans (congrArg some (by kernel_rfl))
 f243 := Tryz.func128.trans (congrArg some (by kernel_rfl))
 f246 := Tryz.func156.trans (congrArg some (by kernel_rfl))
 f283 := Tryz.func174.trans (congrArg some (by kernel_rfl))
 f284 := Tryz.func175.trans (congrArg some (by kernel_rfl))
 f285 := Tryz.func176.trans (congrArg some (by kernel_rfl))
 f286 := Tryz.func177.trans (congrArg some (by kernel_rfl))
 f317 := Tryz.func192.trans (congrArg some (by kernel_rfl))
 f318 := Tryz.func194.trans (congrArg some (by kernel_rfl))
 f319 := Tryz.func195.trans (congrArg some (by kernel_rfl))
 f320 := Tryz.func196.trans (congrArg some (by kernel_rfl))
 f337 := Tryz.func202.trans (congrArg some (by kernel_rfl))
 f338 := Tryz.func203.trans (congrArg some (by kernel_rfl))
 t0 := Tryz.underlying0
 a0 := Tryz.isAgg0
 z0 := Tryz.sizeOf0
 v0 := Tryz.zeroValue0
 t2 := Tryz.underlying2
 a2 := Tryz.isAgg2
 z2 := Tryz.sizeOf2
 v2 := Tryz.zeroValue2
 t3 := Tryz.underlying3
 a3 := Tryz.isAgg3
 z3 := Tryz.sizeOf3
 v3 := Tryz.zeroValue3
 t4 := Tryz.underlying4
 a4 := Tryz.isAgg4
 z4 := Tryz.sizeOf4
 v4 := Tryz.zeroValue4
 t5 := Tryz.underlying5
 a5 := Tryz.isAgg5
 z5 := Tryz.sizeOf5
 v5 := Tryz.zeroValue5
 t9 := Tryz.underlying9
 a9 := Tryz.isAgg9
 z9 := Tryz.sizeOf9
 v9 := Tryz.zeroValue9
 t20 := Tryz.underlying20
 a20 := Tryz.isAgg20
 z20 := Tryz.sizeOf20
 v20 := Tryz.zeroValue20
 t37 := Tryz.underlying24
 a37 := Tryz.isAgg24
 z37 := Tryz.sizeOf24
 v37 := Tryz.zeroValue24
 t46 := Tryz.underlying181
 a46 := Tryz.isAgg181
 z46 := Tryz.sizeOf181
 v46 := Tryz.zeroValue181
 t51 := Tryz.underlying199
 a51 := Tryz.isAgg199
 z51 := Tryz.sizeOf199
 v51 := Tryz.zeroValue199
 t53 := Tryz.underlying232
 a53 := Tryz.isAgg232
 z53 := Tryz.sizeOf232
 v53 := Tryz.zeroValue232
 t171 := Tryz.underlying231
 a171 := Tryz.isAgg231
 z171 := Tryz.sizeOf231
 v171 := Tryz.zeroValue231
 t173 := Tryz.underlying235
 a173 := Tryz.isAgg235
 z173 := Tryz.sizeOf235
 v173 := Tryz.zeroValue235
 t212 := Tryz.underlying245
 a212 := Tryz.isAgg245
 z212 := Tryz.sizeOf245
 v212 := Tryz.zeroValue245
 t213 := Tryz.underlying246
 a213 := Tryz.isAgg246
 z213 := Tryz.sizeOf246
 t232 := Tryz.underlying252
 a232 := Tryz.isAgg252
 z232 := Tryz.sizeOf252
 v232 := Tryz.zeroValue252
 t233 := Tryz.underlying253
 a233 := Tryz.isAgg253
 z233 := Tryz.sizeOf253
 v233 := Tryz.zeroValue253
 g17 := by kernel_rfl
 g18 := by kernel_rfl
 g19 := by kernel_rfl }
open Go.RowKit Go.Sort Go.Lib in
theorem Tryz.strconv_Itoa_small (i : Nat) (hi : i < 100) (w : World) :
  Calls Tryz.prog 77 #[.int .i64 i] w fun e w' => e = .returned (.string ⟨(Lib.decDigits i).toArray⟩) ∧ w' = w := Any.strconv_Itoa_small Tryz.lays171 i hi w
end Go.Proofs
end
