/- A part of the proofs of the cards of this seat: whatever the input, each law returns true and leaves its arguments as they were. No condition. -/
import Derived.Test.YtknfapnlpkmcjabGreatDoorPE
import Derived.Test.YtknfapnlpkmcjabGreatDoorPA
import Derived.Test.YtknfapnlpkmcjabGreatDoorPB
import Derived.Test.YtknfapnlpkmcjabGreatDoorPG
set_option linter.all false
set_option maxRecDepth 100000
set_option maxHeartbeats 32000000
namespace Go.Inv
open Go.Sh
theorem pl109 : plainT pr 109 = true := by kernel_rfl
theorem pl171 : plainT pr 171 = true := by kernel_rfl
theorem pl172 : plainT pr 172 = true := by kernel_rfl
theorem ag177 : aggT pr 177 = some 17 := by kernel_rfl
theorem ag247 : aggT pr 247 = some 3 := by kernel_rfl
theorem fo26_1 : fieldOff pr 26 1 = some 1 := by kernel_rfl
theorem fo26_2 : fieldOff pr 26 2 = some 2 := by kernel_rfl
theorem fo26_3 : fieldOff pr 26 3 = some 3 := by kernel_rfl
theorem fo174_0 : fieldOff pr 174 0 = some 0 := by kernel_rfl
theorem fo174_1 : fieldOff pr 174 1 = some 1 := by kernel_rfl
theorem fo174_2 : fieldOff pr 174 2 = some 6 := by kernel_rfl
theorem fo174_3 : fieldOff pr 174 3 = some 7 := by kernel_rfl
theorem fo174_4 : fieldOff pr 174 4 = some 8 := by kernel_rfl
theorem fo177_0 : fieldOff pr 177 0 = some 0 := by kernel_rfl
theorem fo177_1 : fieldOff pr 177 1 = some 1 := by kernel_rfl
theorem fo247_0 : fieldOff pr 247 0 = some 0 := by kernel_rfl
theorem fo247_1 : fieldOff pr 247 1 = some 1 := by kernel_rfl
theorem il248 : isSl pr 248 = true := by kernel_rfl
def RT7 := (And.intro (And.intro (And.intro (And.intro (And.intro (And.intro (And.intro (rLoad pl3) (raLoad pl3)) (And.intro (rkLoad pl3) (rStore pl3))) (And.intro (And.intro (rLoad pl4) (raLoad pl4)) (And.intro (rkLoad pl4) (And.intro (rStore pl4) (rLoad pl5))))) (And.intro (And.intro (And.intro (raLoad pl5) (rkLoad pl5)) (And.intro (rStore pl5) (rLoad pl22))) (And.intro (And.intro (raLoad pl22) (rkLoad pl22)) (And.intro (rStore pl22) (And.intro (rLoad pl55) (raLoad pl55)))))) (And.intro (And.intro (And.intro (And.intro (rkLoad pl55) (rStore pl55)) (And.intro (rLoad pl83) (raLoad pl83))) (And.intro (And.intro (rkLoad pl83) (rStore pl83)) (And.intro (rLoad pl109) (And.intro (raLoad pl109) (rkLoad pl109))))) (And.intro (And.intro (And.intro (rStore pl109) (rLoad pl135)) (And.intro (raLoad pl135) (rkLoad pl135))) (And.intro (And.intro (rStore pl135) (rLoad pl138)) (And.intro (raLoad pl138) (And.intro (rkLoad pl138) (rStore pl138))))))) (And.intro (And.intro (And.intro (And.intro (And.intro (rLoad pl149) (raLoad pl149)) (And.intro (rkLoad pl149) (rStore pl149))) (And.intro (And.intro (rLoad pl171) (raLoad pl171)) (And.intro (rkLoad pl171) (And.intro (rStore pl171) (rLoad pl172))))) (And.intro (And.intro (And.intro (raLoad pl172) (rkLoad pl172)) (And.intro (rStore pl172) (rLoadA ag107))) (And.intro (And.intro (raLoadA ag107) (rkLoadA ag107)) (And.intro (rStoreA ag107) (And.intro (rLoadA ag151) (raLoadA ag151)))))) (And.intro (And.intro (And.intro (And.intro (rkLoadA ag151) (rStoreA ag151)) (And.intro (rLoadA ag177) (raLoadA ag177))) (And.intro (And.intro (rkLoadA ag177) (rStoreA ag177)) (And.intro (rLoadA ag247) (And.intro (raLoadA ag247) (rkLoadA ag247))))) (And.intro (And.intro (And.intro (rStoreA ag247) (rFA fo26_1)) (And.intro (rzFA fo26_1) (rFA fo26_2))) (And.intro (And.intro (rzFA fo26_2) (rFA fo26_3)) (And.intro (rzFA fo26_3) (And.intro (rFA fo133_0) (rzFA fo133_0)))))))) (And.intro (And.intro (And.intro (And.intro (And.intro (And.intro (rFA fo140_1) (rzFA fo140_1)) (And.intro (rFA fo140_2) (rzFA fo140_2))) (And.intro (And.intro (rFA fo146_1) (rzFA fo146_1)) (And.intro (rFA fo151_0) (And.intro (rzFA fo151_0) (rFA fo151_1))))) (And.intro (And.intro (And.intro (rzFA fo151_1) (rFA fo151_2)) (And.intro (rzFA fo151_2) (rFA fo153_1))) (And.intro (And.intro (rzFA fo153_1) (rFA fo153_2)) (And.intro (rzFA fo153_2) (And.intro (rFA fo156_1) (rzFA fo156_1)))))) (And.intro (And.intro (And.intro (And.intro (rFA fo156_2) (rzFA fo156_2)) (And.intro (rFA fo156_3) (rzFA fo156_3))) (And.intro (And.intro (rFA fo159_0) (rzFA fo159_0)) (And.intro (rFA fo159_1) (And.intro (rzFA fo159_1) (rFA fo159_2))))) (And.intro (And.intro (And.intro (rzFA fo159_2) (rFA fo174_0)) (And.intro (rzFA fo174_0) (rFA fo174_1))) (And.intro (And.intro (rzFA fo174_1) (rFA fo174_2)) (And.intro (rzFA fo174_2) (And.intro (rFA fo174_3) (rzFA fo174_3))))))) (And.intro (And.intro (And.intro (And.intro (And.intro (rFA fo174_4) (rzFA fo174_4)) (And.intro (rFA fo177_0) (rzFA fo177_0))) (And.intro (And.intro (rFA fo177_1) (rzFA fo177_1)) (And.intro (rFA fo200_0) (And.intro (rzFA fo200_0) (rFA fo203_0))))) (And.intro (And.intro (And.intro (rzFA fo203_0) (rFA fo206_0)) (And.intro (rzFA fo206_0) (rFA fo209_0))) (And.intro (And.intro (rzFA fo209_0) (rFA fo209_1)) (And.intro (rzFA fo209_1) (And.intro (rFA fo209_2) (rzFA fo209_2)))))) (And.intro (And.intro (And.intro (And.intro (rFA fo209_3) (rzFA fo209_3)) (And.intro (rFA fo247_0) (rzFA fo247_0))) (And.intro (And.intro (rFA fo247_1) (rzFA fo247_1)) (And.intro (rLenL il83) (And.intro (rzLenL il83) (rLenL il248))))) (And.intro (And.intro (And.intro (rzLenL il248) (rConv ik3 ik3)) (And.intro (rzConv ik3 ik3) (rConv ik3 ik55))) (And.intro (And.intro (rzConv ik3 ik55) (rConv ik55 ik3)) (And.intro (rzConv ik55 ik3) (And.intro (rConv ik55 ik55) (rzConv ik55 ik55)))))))))
def ct_sv_list_1 (E : PanicK) (e1 : Nat → Value) (t1 : Value) (I1 : List Value → World → Prop) (m1 : List Value → World → Nat) (w1 : World) (a1 : Value) (t12 : Value) (a0 : Value) (j3 : List Value → World → Prop) (t230 : Value) : World → Prop :=
 (fun w =>
 o pr E w (sBin .lss 3 (e1 24) t1 3) fun t2 w =>
 ∃ j1 : List Value → World → Prop, (∀ (e2 : Nat → Value) w, j1 [] w →
 o pr E w (sBinC .add 3 (e1 24) (Value.int IntKind.i64 1) 3) fun t3 w =>
 I1 [t3] w ∧ m1 [t3] w < m1 [e1 24] w1) ∧
 condP t2 (o pr E w (sIA 83 a1 (e1 24)) fun t4 w =>
 o pr E w (sLoad 135 t4) fun t5 w =>
 ∃ j2 : List Value → World → Prop, (∀ (e3 : Nat → Value) w, j2 [] w →
 o pr E w (sAssert t5 135 136 true) fun t6 w =>
 o pr E w (sExt t6 1) fun t7 w =>
 o pr E w (sExt t6 0) fun t8 w =>
 condP t7 ((fun w =>
 oz pr (sNil t8) fun t9 =>
 oz pr (sFA 140 t9 2) fun t10 =>
 oa pr w (sLoad 138 t10) fun t11 =>
 oa pr w (sLoad 177 t12) fun t13 =>
 (cl pr E w n_sv_sum #[a0, t11, t13] fun t14 w =>
 oz pr (sExt t14 0) fun t15 =>
 oz pr (sExt t14 1) fun t16 =>
 o pr E w (sAlloc 107) fun t17 w =>
 o pr E w (sStore 107 t17 t15) fun _ w =>
 (fun w =>
 oz pr (sNil t8) fun t18 =>
 oz pr (sFA 140 t18 1) fun t19 =>
 oa pr w (sLoad 3 t19) fun t20 =>
 oa pr w (sLoad 107 t17) fun t21 =>
 oz pr (sFA 177 t12 1) fun t22 =>
 oz pr (sIA 175 t22 t20) fun t23 =>
 o pr E w (sStore 107 t23 t21) fun _ w =>
 o pr E w (sUn .not 4 t16) fun t24 w =>
 condP t24 (o pr E w (sBuild 177 []) fun t25 w =>
 o pr E w (sStore 177 t12 t25) fun _ w =>
 j1 [] w)
  (j1 [] w)) (dr w)) ∧
 (o pr E w (sAlloc 107) fun t26 w =>
 rk pr w (sLoad 177 t12) t13 ∧
 rk pr w (sLoad 138 t10) t11 ∧
 cl pr E w n_sv_sum #[a0, t11, t13] fun t27 w =>
 oz pr (sExt t27 0) fun t28 =>
 oz pr (sExt t27 1) fun t29 =>
 o pr E w (sStore 107 t26 t28) fun _ w =>
 (fun w =>
 oz pr (sNil t8) fun t30 =>
 oz pr (sFA 140 t30 1) fun t31 =>
 oa pr w (sLoad 3 t31) fun t32 =>
 oa pr w (sLoad 107 t26) fun t33 =>
 oz pr (sFA 177 t12 1) fun t34 =>
 oz pr (sIA 175 t34 t32) fun t35 =>
 o pr E w (sStore 107 t35 t33) fun _ w =>
 o pr E w (sUn .not 4 t29) fun t36 w =>
 condP t36 (o pr E w (sBuild 177 []) fun t37 w =>
 o pr E w (sStore 177 t12 t37) fun _ w =>
 j1 [] w)
  (j1 [] w)) (dr w))) (dr w))
  (o pr E w (sAssert t5 135 144 true) fun t38 w =>
 o pr E w (sExt t38 1) fun t39 w =>
 o pr E w (sExt t38 0) fun t40 w =>
 condP t39 ((fun w =>
 oz pr (sNil t40) fun t41 =>
 oz pr (sFA 146 t41 1) fun t42 =>
 oa pr w (sLoad 3 t42) fun t43 =>
 oz pr (sNil a0) fun t44 =>
 oz pr (sFA 174 t44 0) fun t45 =>
 oa pr w (sLoad 109 t45) fun t46 =>
 oz pr (sFA 177 t12 1) fun t47 =>
 o pr E w (sInvoke t46 "Whole" []) fun t48 w =>
 rk pr w (sLoad 3 t42) t43 ∧
 oz pr (sIA 175 t47 t43) fun t49 =>
 o pr E w (sStore 107 t49 t48) fun _ w =>
 j1 [] w) (dr w))
  (o pr E w (sAssert t5 135 147 true) fun t50 w =>
 o pr E w (sExt t50 1) fun t51 w =>
 o pr E w (sExt t50 0) fun t52 w =>
 condP t51 ((fun w =>
 oz pr (sNil t52) fun t53 =>
 oz pr (sFA 153 t53 1) fun t54 =>
 oa pr w (sLoad 151 t54) fun t55 =>
 oa pr w (sLoad 177 t12) fun t56 =>
 (cl pr E w n_sv_split #[a0, t55, t56] fun t57 w =>
 oz pr (sExt t57 0) fun t58 =>
 oz pr (sExt t57 1) fun t59 =>
 (o pr E w (sAlloc 177) fun t60 w =>
 o pr E w (sAlloc 177) fun t61 w =>
 o pr E w (sStore 177 t60 t58) fun _ w =>
 o pr E w (sStore 177 t61 t59) fun _ w =>
 (fun w =>
 oz pr (sNil t52) fun t62 =>
 oz pr (sFA 153 t62 2) fun t63 =>
 oa pr w (sLoad 3 t63) fun t64 =>
 oz pr (sFA 177 t61 0) fun t65 =>
 oa pr w (sLoad 4 t65) fun t66 =>
 cl pr E w n_sv_tell #[a0, t64, t66] fun _ w =>
 o pr E w (sLoad 177 t60) fun t67 w =>
 o pr E w (sStore 177 t12 t67) fun _ w =>
 j1 [] w) (dr w)) ∧
 (o pr E w (sAlloc 177) fun t68 w =>
 o pr E w (sAlloc 177) fun t69 w =>
 o pr E w (sStore 177 t69 t58) fun _ w =>
 o pr E w (sStore 177 t68 t59) fun _ w =>
 (fun w =>
 oz pr (sNil t52) fun t70 =>
 oz pr (sFA 153 t70 2) fun t71 =>
 oa pr w (sLoad 3 t71) fun t72 =>
 oz pr (sFA 177 t68 0) fun t73 =>
 oa pr w (sLoad 4 t73) fun t74 =>
 cl pr E w n_sv_tell #[a0, t72, t74] fun _ w =>
 o pr E w (sLoad 177 t69) fun t75 w =>
 o pr E w (sStore 177 t12 t75) fun _ w =>
 j1 [] w) (dr w))) ∧
 (o pr E w (sAlloc 177) fun t76 w =>
 rk pr w (sLoad 177 t12) t56 ∧
 rk pr w (sLoad 151 t54) t55 ∧
 (cl pr E w n_sv_split #[a0, t55, t56] fun t77 w =>
 oz pr (sExt t77 0) fun t78 =>
 oz pr (sExt t77 1) fun t79 =>
 o pr E w (sAlloc 177) fun t80 w =>
 o pr E w (sStore 177 t76 t78) fun _ w =>
 o pr E w (sStore 177 t80 t79) fun _ w =>
 (fun w =>
 oz pr (sNil t52) fun t81 =>
 oz pr (sFA 153 t81 2) fun t82 =>
 oa pr w (sLoad 3 t82) fun t83 =>
 oz pr (sFA 177 t80 0) fun t84 =>
 oa pr w (sLoad 4 t84) fun t85 =>
 cl pr E w n_sv_tell #[a0, t83, t85] fun _ w =>
 o pr E w (sLoad 177 t76) fun t86 w =>
 o pr E w (sStore 177 t12 t86) fun _ w =>
 j1 [] w) (dr w)) ∧
 (o pr E w (sAlloc 177) fun t87 w =>
 rk pr w (sLoad 177 t12) t56 ∧
 rk pr w (sLoad 151 t54) t55 ∧
 cl pr E w n_sv_split #[a0, t55, t56] fun t88 w =>
 oz pr (sExt t88 0) fun t89 =>
 oz pr (sExt t88 1) fun t90 =>
 o pr E w (sStore 177 t76 t89) fun _ w =>
 o pr E w (sStore 177 t87 t90) fun _ w =>
 (fun w =>
 oz pr (sNil t52) fun t91 =>
 oz pr (sFA 153 t91 2) fun t92 =>
 oa pr w (sLoad 3 t92) fun t93 =>
 oz pr (sFA 177 t87 0) fun t94 =>
 oa pr w (sLoad 4 t94) fun t95 =>
 cl pr E w n_sv_tell #[a0, t93, t95] fun _ w =>
 o pr E w (sLoad 177 t76) fun t96 w =>
 o pr E w (sStore 177 t12 t96) fun _ w =>
 j1 [] w) (dr w))) ∧
 (o pr E w (sAlloc 177) fun t97 w =>
 rk pr w (sLoad 177 t12) t56 ∧
 rk pr w (sLoad 151 t54) t55 ∧
 (cl pr E w n_sv_split #[a0, t55, t56] fun t98 w =>
 oz pr (sExt t98 0) fun t99 =>
 oz pr (sExt t98 1) fun t100 =>
 o pr E w (sAlloc 177) fun t101 w =>
 o pr E w (sStore 177 t101 t99) fun _ w =>
 o pr E w (sStore 177 t97 t100) fun _ w =>
 (fun w =>
 oz pr (sNil t52) fun t102 =>
 oz pr (sFA 153 t102 2) fun t103 =>
 oa pr w (sLoad 3 t103) fun t104 =>
 oz pr (sFA 177 t97 0) fun t105 =>
 oa pr w (sLoad 4 t105) fun t106 =>
 cl pr E w n_sv_tell #[a0, t104, t106] fun _ w =>
 o pr E w (sLoad 177 t101) fun t107 w =>
 o pr E w (sStore 177 t12 t107) fun _ w =>
 j1 [] w) (dr w)) ∧
 (o pr E w (sAlloc 177) fun t108 w =>
 rk pr w (sLoad 177 t12) t56 ∧
 rk pr w (sLoad 151 t54) t55 ∧
 cl pr E w n_sv_split #[a0, t55, t56] fun t109 w =>
 oz pr (sExt t109 0) fun t110 =>
 oz pr (sExt t109 1) fun t111 =>
 o pr E w (sStore 177 t108 t110) fun _ w =>
 o pr E w (sStore 177 t97 t111) fun _ w =>
 (fun w =>
 oz pr (sNil t52) fun t112 =>
 oz pr (sFA 153 t112 2) fun t113 =>
 oa pr w (sLoad 3 t113) fun t114 =>
 oz pr (sFA 177 t97 0) fun t115 =>
 oa pr w (sLoad 4 t115) fun t116 =>
 cl pr E w n_sv_tell #[a0, t114, t116] fun _ w =>
 o pr E w (sLoad 177 t108) fun t117 w =>
 o pr E w (sStore 177 t12 t117) fun _ w =>
 j1 [] w) (dr w)))) (dr w))
  (o pr E w (sAssert t5 135 154 true) fun t118 w =>
 o pr E w (sExt t118 1) fun t119 w =>
 o pr E w (sExt t118 0) fun t120 w =>
 condP t119 ((fun w =>
 oz pr (sNil t120) fun t121 =>
 oz pr (sFA 156 t121 1) fun t122 =>
 oa pr w (sLoad 151 t122) fun t123 =>
 oa pr w (sLoad 177 t12) fun t124 =>
 (cl pr E w n_sv_split #[a0, t123, t124] fun t125 w =>
 oz pr (sExt t125 0) fun t126 =>
 oz pr (sExt t125 1) fun t127 =>
 (o pr E w (sAlloc 177) fun t128 w =>
 o pr E w (sAlloc 177) fun t129 w =>
 o pr E w (sStore 177 t128 t126) fun _ w =>
 o pr E w (sStore 177 t129 t127) fun _ w =>
 (fun w =>
 oz pr (sNil t120) fun t130 =>
 oz pr (sFA 156 t130 2) fun t131 =>
 oa pr w (sLoad 83 t131) fun t132 =>
 oa pr w (sLoad 177 t128) fun t133 =>
 cl pr E w n_sv_list #[a0, t132, t133] fun t134 w =>
 o pr E w (sStore 177 t128 t134) fun _ w =>
 (fun w =>
 oa pr w (sLoad 177 t128) fun t135 =>
 oz pr (sNil t120) fun t136 =>
 oz pr (sFA 156 t136 3) fun t137 =>
 oa pr w (sLoad 83 t137) fun t138 =>
 oa pr w (sLoad 177 t129) fun t139 =>
 cl pr E w n_sv_list #[a0, t138, t139] fun t140 w =>
 rk pr w (sLoad 177 t128) t135 ∧
 cl pr E w n_sv_both #[a0, t135, t140] fun t141 w =>
 o pr E w (sStore 177 t12 t141) fun _ w =>
 j1 [] w) (dr w)) (dr w)) ∧
 (o pr E w (sAlloc 177) fun t142 w =>
 o pr E w (sAlloc 177) fun t143 w =>
 o pr E w (sStore 177 t143 t126) fun _ w =>
 o pr E w (sStore 177 t142 t127) fun _ w =>
 (fun w =>
 oz pr (sNil t120) fun t144 =>
 oz pr (sFA 156 t144 2) fun t145 =>
 oa pr w (sLoad 83 t145) fun t146 =>
 oa pr w (sLoad 177 t143) fun t147 =>
 cl pr E w n_sv_list #[a0, t146, t147] fun t148 w =>
 o pr E w (sStore 177 t143 t148) fun _ w =>
 (fun w =>
 oa pr w (sLoad 177 t143) fun t149 =>
 oz pr (sNil t120) fun t150 =>
 oz pr (sFA 156 t150 3) fun t151 =>
 oa pr w (sLoad 83 t151) fun t152 =>
 oa pr w (sLoad 177 t142) fun t153 =>
 cl pr E w n_sv_list #[a0, t152, t153] fun t154 w =>
 rk pr w (sLoad 177 t143) t149 ∧
 cl pr E w n_sv_both #[a0, t149, t154] fun t155 w =>
 o pr E w (sStore 177 t12 t155) fun _ w =>
 j1 [] w) (dr w)) (dr w))) ∧
 (o pr E w (sAlloc 177) fun t156 w =>
 rk pr w (sLoad 177 t12) t124 ∧
 rk pr w (sLoad 151 t122) t123 ∧
 (cl pr E w n_sv_split #[a0, t123, t124] fun t157 w =>
 oz pr (sExt t157 0) fun t158 =>
 oz pr (sExt t157 1) fun t159 =>
 o pr E w (sAlloc 177) fun t160 w =>
 o pr E w (sStore 177 t156 t158) fun _ w =>
 o pr E w (sStore 177 t160 t159) fun _ w =>
 (fun w =>
 oz pr (sNil t120) fun t161 =>
 oz pr (sFA 156 t161 2) fun t162 =>
 oa pr w (sLoad 83 t162) fun t163 =>
 oa pr w (sLoad 177 t156) fun t164 =>
 cl pr E w n_sv_list #[a0, t163, t164] fun t165 w =>
 o pr E w (sStore 177 t156 t165) fun _ w =>
 (fun w =>
 oa pr w (sLoad 177 t156) fun t166 =>
 oz pr (sNil t120) fun t167 =>
 oz pr (sFA 156 t167 3) fun t168 =>
 oa pr w (sLoad 83 t168) fun t169 =>
 oa pr w (sLoad 177 t160) fun t170 =>
 cl pr E w n_sv_list #[a0, t169, t170] fun t171 w =>
 rk pr w (sLoad 177 t156) t166 ∧
 cl pr E w n_sv_both #[a0, t166, t171] fun t172 w =>
 o pr E w (sStore 177 t12 t172) fun _ w =>
 j1 [] w) (dr w)) (dr w)) ∧
 (o pr E w (sAlloc 177) fun t173 w =>
 rk pr w (sLoad 177 t12) t124 ∧
 rk pr w (sLoad 151 t122) t123 ∧
 cl pr E w n_sv_split #[a0, t123, t124] fun t174 w =>
 oz pr (sExt t174 0) fun t175 =>
 oz pr (sExt t174 1) fun t176 =>
 o pr E w (sStore 177 t156 t175) fun _ w =>
 o pr E w (sStore 177 t173 t176) fun _ w =>
 (fun w =>
 oz pr (sNil t120) fun t177 =>
 oz pr (sFA 156 t177 2) fun t178 =>
 oa pr w (sLoad 83 t178) fun t179 =>
 oa pr w (sLoad 177 t156) fun t180 =>
 cl pr E w n_sv_list #[a0, t179, t180] fun t181 w =>
 o pr E w (sStore 177 t156 t181) fun _ w =>
 (fun w =>
 oa pr w (sLoad 177 t156) fun t182 =>
 oz pr (sNil t120) fun t183 =>
 oz pr (sFA 156 t183 3) fun t184 =>
 oa pr w (sLoad 83 t184) fun t185 =>
 oa pr w (sLoad 177 t173) fun t186 =>
 cl pr E w n_sv_list #[a0, t185, t186] fun t187 w =>
 rk pr w (sLoad 177 t156) t182 ∧
 cl pr E w n_sv_both #[a0, t182, t187] fun t188 w =>
 o pr E w (sStore 177 t12 t188) fun _ w =>
 j1 [] w) (dr w)) (dr w))) ∧
 (o pr E w (sAlloc 177) fun t189 w =>
 rk pr w (sLoad 177 t12) t124 ∧
 rk pr w (sLoad 151 t122) t123 ∧
 (cl pr E w n_sv_split #[a0, t123, t124] fun t190 w =>
 oz pr (sExt t190 0) fun t191 =>
 oz pr (sExt t190 1) fun t192 =>
 o pr E w (sAlloc 177) fun t193 w =>
 o pr E w (sStore 177 t193 t191) fun _ w =>
 o pr E w (sStore 177 t189 t192) fun _ w =>
 (fun w =>
 oz pr (sNil t120) fun t194 =>
 oz pr (sFA 156 t194 2) fun t195 =>
 oa pr w (sLoad 83 t195) fun t196 =>
 oa pr w (sLoad 177 t193) fun t197 =>
 cl pr E w n_sv_list #[a0, t196, t197] fun t198 w =>
 o pr E w (sStore 177 t193 t198) fun _ w =>
 (fun w =>
 oa pr w (sLoad 177 t193) fun t199 =>
 oz pr (sNil t120) fun t200 =>
 oz pr (sFA 156 t200 3) fun t201 =>
 oa pr w (sLoad 83 t201) fun t202 =>
 oa pr w (sLoad 177 t189) fun t203 =>
 cl pr E w n_sv_list #[a0, t202, t203] fun t204 w =>
 rk pr w (sLoad 177 t193) t199 ∧
 cl pr E w n_sv_both #[a0, t199, t204] fun t205 w =>
 o pr E w (sStore 177 t12 t205) fun _ w =>
 j1 [] w) (dr w)) (dr w)) ∧
 (o pr E w (sAlloc 177) fun t206 w =>
 rk pr w (sLoad 177 t12) t124 ∧
 rk pr w (sLoad 151 t122) t123 ∧
 cl pr E w n_sv_split #[a0, t123, t124] fun t207 w =>
 oz pr (sExt t207 0) fun t208 =>
 oz pr (sExt t207 1) fun t209 =>
 o pr E w (sStore 177 t206 t208) fun _ w =>
 o pr E w (sStore 177 t189 t209) fun _ w =>
 (fun w =>
 oz pr (sNil t120) fun t210 =>
 oz pr (sFA 156 t210 2) fun t211 =>
 oa pr w (sLoad 83 t211) fun t212 =>
 oa pr w (sLoad 177 t206) fun t213 =>
 cl pr E w n_sv_list #[a0, t212, t213] fun t214 w =>
 o pr E w (sStore 177 t206 t214) fun _ w =>
 (fun w =>
 oa pr w (sLoad 177 t206) fun t215 =>
 oz pr (sNil t120) fun t216 =>
 oz pr (sFA 156 t216 3) fun t217 =>
 oa pr w (sLoad 83 t217) fun t218 =>
 oa pr w (sLoad 177 t189) fun t219 =>
 cl pr E w n_sv_list #[a0, t218, t219] fun t220 w =>
 rk pr w (sLoad 177 t206) t215 ∧
 cl pr E w n_sv_both #[a0, t215, t220] fun t221 w =>
 o pr E w (sStore 177 t12 t221) fun _ w =>
 j1 [] w) (dr w)) (dr w)))) (dr w))
  (o pr E w (sAssert t5 135 157 true) fun t222 w =>
 o pr E w (sExt t222 1) fun t223 w =>
 o pr E w (sExt t222 0) fun t224 w =>
 condP t223 (o pr E w (sLoad 177 t12) fun t225 w =>
 cl pr E w n_sv_loop #[a0, t224, t225] fun t226 w =>
 o pr E w (sStore 177 t12 t226) fun _ w =>
 j1 [] w)
  (j1 [] w)))))) ∧
 o pr E w (sFA 177 t12 0) fun t227 w =>
 o pr E w (sLoad 4 t227) fun t228 w =>
 o pr E w (sUn .not 4 t228) fun t229 w =>
 condP t229 (j3 [t12, t230] w)
  (o pr E w (sAssert t5 135 157 true) fun t231 w =>
 o pr E w (sExt t231 0) fun _ w =>
 o pr E w (sExt t231 1) fun t232 w =>
 o pr E w (sUn .not 4 t232) fun t233 w =>
 condP t233 ((fun w =>
 oa pr w (sLoad 177 t12) fun t234 =>
 o pr E w (sInvoke t5 "Where" []) fun t235 w =>
 rk pr w (sLoad 177 t12) t234 ∧
 cl pr E w n_sv_come #[a0, t235, t234] fun _ w =>
 j2 [] w) (dr w))
  (j2 [] w)))
  (j3 [t12, t230] w))
def sh_sv_list (K : Value → World → Prop) (E : PanicK) (a0 a1 a2 : Value) (w : World) : Prop :=
 ∃ j1 : List Value → World → Prop, (∀ (e1 : Nat → Value) w, j1 [e1 5, e1 6] w →
 o pr E w (sLoad 177 (e1 5)) fun t141 w =>
 o pr E w (sStore 177 (e1 6) t141) fun _ w =>
 rs pr w (e1 6) 177 fun v0_0 =>
 K v0_0 w) ∧
 o pr E w (sBox 177 a2) fun t5 w =>
 o pr E w (sAlloc 177) fun t6 w =>
 o pr E w (sB .len [83] 3 [a1]) fun t23 w =>
 ∃ (I2 : List Value → World → Prop) (m2 : List Value → World → Nat), I2 [(Value.int IntKind.i64 0)] w ∧
 ∀ (e2 : Nat → Value) w2, I2 [e2 24] w2 → (ct_sv_list_1 E e2 t23 I2 m2 w2 a1 t5 a0 j1 t6) w2
def lv_sv_list : Lives := [(1, [0, 1, 5, 6]), (2, [0, 5, 6, 22, 23, 24]), (3, [0, 5, 6, 22, 23, 24, 25]), (4, [0, 5, 6, 8, 22, 23, 24]), (5, [0, 5, 6, 8, 22, 23, 24]), (6, [0, 5, 6, 8, 10, 22, 23, 24]), (7, [0, 5, 6, 8, 22, 23, 24, 37]), (8, [0, 5, 6, 8, 22, 23, 24]), (9, [0, 5, 6, 22, 23, 24, 43]), (10, [0, 5, 6, 22, 23, 24, 43, 45, 46]), (11, [0, 5, 6, 11, 22, 23, 24]), (12, [0, 5, 6, 11, 12, 13, 22, 23, 24]), (13, [0, 5, 6, 13, 22, 23, 24]), (14, [0, 5, 6, 22, 23, 24, 65]), (16, [0, 5, 6, 22, 23, 24, 43, 68, 69]), (17, [0, 5, 6, 14, 22, 23, 24]), (19, [0, 5, 6, 22, 23, 24, 43, 82, 83]), (20, [0, 5, 6, 15, 22, 23, 24]), (21, [0, 5, 6, 15, 16, 17, 22, 23, 24]), (22, [0, 5, 6, 16, 22, 23, 24]), (24, [0, 5, 6, 22, 23, 24, 43, 104, 105]), (25, [0, 5, 6, 18, 22, 23, 24]), (26, [0, 5, 6, 18, 19, 20, 22, 23, 24]), (27, [0, 5, 6, 18, 19, 20, 22, 23, 24]), (29, [0, 5, 6, 22, 23, 24, 134, 135]), (30, [0, 5, 6, 21, 22, 23, 24]), (31, [0, 5, 6, 22, 23, 24]), (32, [5, 6])]
theorem sh_sv_list_ok (a0 a1 a2 : Value) (w : World) (R : Ending → World → Prop)
 (h : sh_sv_list (fun v w => R (.returned v) w) (fun c w => R (.panicked c) w) a0 a1 a2 w) : Calls pr n_sv_list #[a0, a1, a2] w R :=
 calls_of_W (A := lv_sv_list) enters mixed Go.Proofs.Tryz.func51 (by kernel_rfl) (by kernel_rfl) (by kernel_rfl)
  (Eq.mp (by kernel_rfl) h)
def sh_sv_come (K : Value → World → Prop) (E : PanicK) (a0 a1 a2 : Value) (w : World) : Prop :=
 o pr E w (sBox 177 a2) fun t5 w =>
 o pr E w (sNil a0) fun t7 w =>
 o pr E w (sFA 174 t7 4) fun t8 w =>
 o pr E w (sLoad 3 t8) fun t9 w =>
 o pr E w (sBinC .eql 3 t9 (Value.int IntKind.i64 0) 3) fun t10 w =>
 condP t10 ((fun w =>
 oz pr (sNil a0) fun t12 =>
 oz pr (sFA 174 t12 2) fun t13 =>
 oa pr w (sLoad 172 t13) fun t14 =>
 oz pr (sNil a0) fun t18 =>
 oz pr (sFA 174 t18 2) fun t19 =>
 oa pr w (sLoad 172 t19) fun t20 =>
 oz pr (sIA 172 t20 a1) fun t22 =>
 oa pr w (sLoad 177 t22) fun t23 =>
 oa pr w (sLoad 177 t5) fun t24 =>
 cl pr E w n_sv_both #[a0, t23, t24] fun t25 w =>
 rk pr w (sLoad 172 t13) t14 ∧
 oz pr (sIA 172 t14 a1) fun t26 =>
 o pr E w (sStore 177 t26 t25) fun _ w =>
 K (.tuple #[]) w) (dr w))
  (K (.tuple #[]) w)
def lv_sv_come : Lives := [(1, [0, 1, 5]), (2, [0, 1, 5, 10])]
theorem sh_sv_come_ok (a0 a1 a2 : Value) (w : World) (R : Ending → World → Prop)
 (h : sh_sv_come (fun v w => R (.returned v) w) (fun c w => R (.panicked c) w) a0 a1 a2 w) : Calls pr n_sv_come #[a0, a1, a2] w R :=
 calls_of_W (A := lv_sv_come) enters mixed Go.Proofs.Tryz.func52 (by kernel_rfl) (by kernel_rfl) (by kernel_rfl)
  (Eq.mp (by kernel_rfl) h)
def sh_sv_sum (K : Value → World → Prop) (E : PanicK) (a0 a1 a2 : Value) (w : World) : Prop :=
 o pr E w (sBox 177 a2) fun t5 w =>
 o pr E w (sAlloc 107) fun t6 w =>
 o pr E w (sAssert a1 138 198 true) fun t18 w =>
 o pr E w (sExt t18 1) fun t19 w =>
 o pr E w (sExt t18 0) fun t20 w =>
 condP t19 ((fun w =>
 oz pr (sNil a0) fun t22 =>
 oz pr (sFA 174 t22 0) fun t23 =>
 oa pr w (sLoad 109 t23) fun t24 =>
 oz pr (sNil t20) fun t26 =>
 oz pr (sFA 200 t26 0) fun t27 =>
 oa pr w (sLoad 55 t27) fun t28 =>
 oz pr (sConv 55 3 t28) fun t29 =>
 oz pr (sNil t24) fun _ =>
 o pr E w (sInvoke t24 "Only" [t29]) fun t32 w =>
 o pr E w (sStore 107 t6 t32) fun _ w =>
 rs pr w t6 107 fun v0_0 =>
 K (.tuple #[v0_0, (Value.bool true)]) w) (dr w))
  (o pr E w (sAssert a1 138 201 true) fun t33 w =>
 o pr E w (sExt t33 1) fun t34 w =>
 o pr E w (sExt t33 0) fun t35 w =>
 condP t34 (o pr E w (sNil t35) fun t37 w =>
 o pr E w (sFA 203 t37 0) fun t38 w =>
 o pr E w (sLoad 3 t38) fun t39 w =>
 o pr E w (sFA 177 t5 1) fun t40 w =>
 o pr E w (sIA 175 t40 t39) fun t41 w =>
 o pr E w (sLoad 107 t41) fun t42 w =>
 o pr E w (sStore 107 t6 t42) fun _ w =>
 rs pr w t6 107 fun v0_1 =>
 K (.tuple #[v0_1, (Value.bool true)]) w)
  (o pr E w (sAssert a1 138 204 true) fun t43 w =>
 o pr E w (sExt t43 1) fun t44 w =>
 o pr E w (sExt t43 0) fun t45 w =>
 condP t44 (∃ j1 : List Value → World → Prop, (∀ (e1 : Nat → Value) w, j1 [e1 11, e1 12] w →
 o pr E w (sLoad 107 (e1 11)) fun t63 w =>
 o pr E w (sStore 107 t6 t63) fun _ w =>
 rs pr w t6 107 fun v0_2 =>
 K (.tuple #[v0_2, (e1 12)]) w) ∧
 (fun w =>
 oz pr (sNil t45) fun t49 =>
 oz pr (sFA 206 t49 0) fun t50 =>
 oa pr w (sLoad 138 t50) fun t51 =>
 oa pr w (sLoad 177 t5) fun t52 =>
 (cl pr E w n_sv_sum #[a0, t51, t52] fun t53 w =>
 oz pr (sExt t53 0) fun t54 =>
 oz pr (sExt t53 1) fun t55 =>
 o pr E w (sAlloc 107) fun t11 w =>
 o pr E w (sStore 107 t11 t54) fun _ w =>
 condP t55 ((fun w =>
 oz pr (sNil a0) fun t58 =>
 oz pr (sFA 174 t58 0) fun t59 =>
 oa pr w (sLoad 109 t59) fun t60 =>
 oa pr w (sLoad 107 t11) fun t61 =>
 o pr E w (sInvoke t60 "Minus" [t61]) fun t62 w =>
 o pr E w (sStore 107 t11 t62) fun _ w =>
 j1 [t11, t55] w) (dr w))
  (j1 [t11, t55] w)) ∧
 (o pr E w (sAlloc 107) fun t11_1 w =>
 rk pr w (sLoad 177 t5) t52 ∧
 rk pr w (sLoad 138 t50) t51 ∧
 cl pr E w n_sv_sum #[a0, t51, t52] fun t53_1 w =>
 oz pr (sExt t53_1 0) fun t54_1 =>
 oz pr (sExt t53_1 1) fun t55_1 =>
 o pr E w (sStore 107 t11_1 t54_1) fun _ w =>
 condP t55_1 ((fun w =>
 oz pr (sNil a0) fun t58_1 =>
 oz pr (sFA 174 t58_1 0) fun t59_1 =>
 oa pr w (sLoad 109 t59_1) fun t60_1 =>
 oa pr w (sLoad 107 t11_1) fun t61_1 =>
 o pr E w (sInvoke t60_1 "Minus" [t61_1]) fun t62_1 w =>
 o pr E w (sStore 107 t11_1 t62_1) fun _ w =>
 j1 [t11_1, t55_1] w) (dr w))
  (j1 [t11_1, t55_1] w))) (dr w))
  (o pr E w (sAssert a1 138 207 true) fun t65 w =>
 o pr E w (sExt t65 1) fun t66 w =>
 o pr E w (sExt t65 0) fun t67 w =>
 condP t66 ((fun w =>
 oz pr (sNil t67) fun t71 =>
 oz pr (sFA 209 t71 1) fun t72 =>
 oa pr w (sLoad 138 t72) fun t73 =>
 oa pr w (sLoad 177 t5) fun t74 =>
 (cl pr E w n_sv_sum #[a0, t73, t74] fun t75 w =>
 oz pr (sExt t75 0) fun t76 =>
 oz pr (sExt t75 1) fun t77 =>
 o pr E w (sAlloc 107) fun t14 w =>
 o pr E w (sStore 107 t14 t76) fun _ w =>
 o pr E w (sUn .not 4 t77) fun t79 w =>
 condP t79 (o pr E w (sLoad 107 t14) fun t80 w =>
 o pr E w (sStore 107 t6 t80) fun _ w =>
 rs pr w t6 107 fun v0_3 =>
 K (.tuple #[v0_3, (Value.bool false)]) w)
  ((fun w =>
 oz pr (sNil t67) fun t84 =>
 oz pr (sFA 209 t84 2) fun t85 =>
 oa pr w (sLoad 138 t85) fun t86 =>
 oa pr w (sLoad 177 t5) fun t87 =>
 (cl pr E w n_sv_sum #[a0, t86, t87] fun t88 w =>
 oz pr (sExt t88 0) fun t89 =>
 oz pr (sExt t88 1) fun t90 =>
 o pr E w (sAlloc 107) fun t16 w =>
 o pr E w (sStore 107 t16 t89) fun _ w =>
 o pr E w (sUn .not 4 t90) fun t92 w =>
 condP t92 (o pr E w (sLoad 107 t16) fun t93 w =>
 o pr E w (sStore 107 t6 t93) fun _ w =>
 rs pr w t6 107 fun v0_4 =>
 K (.tuple #[v0_4, (Value.bool false)]) w)
  ((fun w =>
 oz pr (sNil t67) fun t96 =>
 oz pr (sFA 209 t96 3) fun t97 =>
 oa pr w (sLoad 3 t97) fun t98 =>
 oz pr (sNil a0) fun t100 =>
 oz pr (sFA 174 t100 0) fun t101 =>
 oa pr w (sLoad 109 t101) fun t102 =>
 oa pr w (sLoad 107 t16) fun t103 =>
 o pr E w (sInvoke t102 "Zero" [t103]) fun t104 w =>
 rk pr w (sLoad 3 t97) t98 ∧
 cl pr E w n_sv_tell #[a0, t98, t104] fun _ w =>
 (fun w =>
 oz pr (sNil a0) fun t107 =>
 oz pr (sFA 174 t107 0) fun t108 =>
 oa pr w (sLoad 109 t108) fun t109 =>
 oz pr (sNil t67) fun t111 =>
 oz pr (sFA 209 t111 0) fun t112 =>
 oa pr w (sLoad 5 t112) fun t113 =>
 oa pr w (sLoad 107 t14) fun t114 =>
 oa pr w (sLoad 107 t16) fun t115 =>
 oz pr (sNil t109) fun _ =>
 o pr E w (sInvoke t109 "Two" [t113, t114, t115]) fun t118 w =>
 oz pr (sExt t118 0) fun t119 =>
 oz pr (sExt t118 1) fun t120 =>
 o pr E w (sStore 107 t6 t119) fun _ w =>
 rs pr w t6 107 fun v0_5 =>
 K (.tuple #[v0_5, t120]) w) (dr w)) (dr w))) ∧
 (o pr E w (sAlloc 107) fun t16_1 w =>
 rk pr w (sLoad 177 t5) t87 ∧
 rk pr w (sLoad 138 t85) t86 ∧
 cl pr E w n_sv_sum #[a0, t86, t87] fun t88_1 w =>
 oz pr (sExt t88_1 0) fun t89_1 =>
 oz pr (sExt t88_1 1) fun t90_1 =>
 o pr E w (sStore 107 t16_1 t89_1) fun _ w =>
 o pr E w (sUn .not 4 t90_1) fun t92_1 w =>
 condP t92_1 (o pr E w (sLoad 107 t16_1) fun t93_1 w =>
 o pr E w (sStore 107 t6 t93_1) fun _ w =>
 rs pr w t6 107 fun v0_6 =>
 K (.tuple #[v0_6, (Value.bool false)]) w)
  ((fun w =>
 oz pr (sNil t67) fun t96_1 =>
 oz pr (sFA 209 t96_1 3) fun t97_1 =>
 oa pr w (sLoad 3 t97_1) fun t98_1 =>
 oz pr (sNil a0) fun t100_1 =>
 oz pr (sFA 174 t100_1 0) fun t101_1 =>
 oa pr w (sLoad 109 t101_1) fun t102_1 =>
 oa pr w (sLoad 107 t16_1) fun t103_1 =>
 o pr E w (sInvoke t102_1 "Zero" [t103_1]) fun t104_1 w =>
 rk pr w (sLoad 3 t97_1) t98_1 ∧
 cl pr E w n_sv_tell #[a0, t98_1, t104_1] fun _ w =>
 (fun w =>
 oz pr (sNil a0) fun t107_1 =>
 oz pr (sFA 174 t107_1 0) fun t108_1 =>
 oa pr w (sLoad 109 t108_1) fun t109_1 =>
 oz pr (sNil t67) fun t111_1 =>
 oz pr (sFA 209 t111_1 0) fun t112_1 =>
 oa pr w (sLoad 5 t112_1) fun t113_1 =>
 oa pr w (sLoad 107 t14) fun t114_1 =>
 oa pr w (sLoad 107 t16_1) fun t115_1 =>
 oz pr (sNil t109_1) fun _ =>
 o pr E w (sInvoke t109_1 "Two" [t113_1, t114_1, t115_1]) fun t118_1 w =>
 oz pr (sExt t118_1 0) fun t119_1 =>
 oz pr (sExt t118_1 1) fun t120_1 =>
 o pr E w (sStore 107 t6 t119_1) fun _ w =>
 rs pr w t6 107 fun v0_7 =>
 K (.tuple #[v0_7, t120_1]) w) (dr w)) (dr w)))) (dr w))) ∧
 (o pr E w (sAlloc 107) fun t14_1 w =>
 rk pr w (sLoad 177 t5) t74 ∧
 rk pr w (sLoad 138 t72) t73 ∧
 cl pr E w n_sv_sum #[a0, t73, t74] fun t75_1 w =>
 oz pr (sExt t75_1 0) fun t76_1 =>
 oz pr (sExt t75_1 1) fun t77_1 =>
 o pr E w (sStore 107 t14_1 t76_1) fun _ w =>
 o pr E w (sUn .not 4 t77_1) fun t79_1 w =>
 condP t79_1 (o pr E w (sLoad 107 t14_1) fun t80_1 w =>
 o pr E w (sStore 107 t6 t80_1) fun _ w =>
 rs pr w t6 107 fun v0_8 =>
 K (.tuple #[v0_8, (Value.bool false)]) w)
  ((fun w =>
 oz pr (sNil t67) fun t84_1 =>
 oz pr (sFA 209 t84_1 2) fun t85_1 =>
 oa pr w (sLoad 138 t85_1) fun t86_1 =>
 oa pr w (sLoad 177 t5) fun t87_1 =>
 (cl pr E w n_sv_sum #[a0, t86_1, t87_1] fun t88_2 w =>
 oz pr (sExt t88_2 0) fun t89_2 =>
 oz pr (sExt t88_2 1) fun t90_2 =>
 o pr E w (sAlloc 107) fun t16_2 w =>
 o pr E w (sStore 107 t16_2 t89_2) fun _ w =>
 o pr E w (sUn .not 4 t90_2) fun t92_2 w =>
 condP t92_2 (o pr E w (sLoad 107 t16_2) fun t93_2 w =>
 o pr E w (sStore 107 t6 t93_2) fun _ w =>
 rs pr w t6 107 fun v0_9 =>
 K (.tuple #[v0_9, (Value.bool false)]) w)
  ((fun w =>
 oz pr (sNil t67) fun t96_2 =>
 oz pr (sFA 209 t96_2 3) fun t97_2 =>
 oa pr w (sLoad 3 t97_2) fun t98_2 =>
 oz pr (sNil a0) fun t100_2 =>
 oz pr (sFA 174 t100_2 0) fun t101_2 =>
 oa pr w (sLoad 109 t101_2) fun t102_2 =>
 oa pr w (sLoad 107 t16_2) fun t103_2 =>
 o pr E w (sInvoke t102_2 "Zero" [t103_2]) fun t104_2 w =>
 rk pr w (sLoad 3 t97_2) t98_2 ∧
 cl pr E w n_sv_tell #[a0, t98_2, t104_2] fun _ w =>
 (fun w =>
 oz pr (sNil a0) fun t107_2 =>
 oz pr (sFA 174 t107_2 0) fun t108_2 =>
 oa pr w (sLoad 109 t108_2) fun t109_2 =>
 oz pr (sNil t67) fun t111_2 =>
 oz pr (sFA 209 t111_2 0) fun t112_2 =>
 oa pr w (sLoad 5 t112_2) fun t113_2 =>
 oa pr w (sLoad 107 t14_1) fun t114_2 =>
 oa pr w (sLoad 107 t16_2) fun t115_2 =>
 oz pr (sNil t109_2) fun _ =>
 o pr E w (sInvoke t109_2 "Two" [t113_2, t114_2, t115_2]) fun t118_2 w =>
 oz pr (sExt t118_2 0) fun t119_2 =>
 oz pr (sExt t118_2 1) fun t120_2 =>
 o pr E w (sStore 107 t6 t119_2) fun _ w =>
 rs pr w t6 107 fun v0_10 =>
 K (.tuple #[v0_10, t120_2]) w) (dr w)) (dr w))) ∧
 (o pr E w (sAlloc 107) fun t16_3 w =>
 rk pr w (sLoad 177 t5) t87_1 ∧
 rk pr w (sLoad 138 t85_1) t86_1 ∧
 cl pr E w n_sv_sum #[a0, t86_1, t87_1] fun t88_3 w =>
 oz pr (sExt t88_3 0) fun t89_3 =>
 oz pr (sExt t88_3 1) fun t90_3 =>
 o pr E w (sStore 107 t16_3 t89_3) fun _ w =>
 o pr E w (sUn .not 4 t90_3) fun t92_3 w =>
 condP t92_3 (o pr E w (sLoad 107 t16_3) fun t93_3 w =>
 o pr E w (sStore 107 t6 t93_3) fun _ w =>
 rs pr w t6 107 fun v0_11 =>
 K (.tuple #[v0_11, (Value.bool false)]) w)
  ((fun w =>
 oz pr (sNil t67) fun t96_3 =>
 oz pr (sFA 209 t96_3 3) fun t97_3 =>
 oa pr w (sLoad 3 t97_3) fun t98_3 =>
 oz pr (sNil a0) fun t100_3 =>
 oz pr (sFA 174 t100_3 0) fun t101_3 =>
 oa pr w (sLoad 109 t101_3) fun t102_3 =>
 oa pr w (sLoad 107 t16_3) fun t103_3 =>
 o pr E w (sInvoke t102_3 "Zero" [t103_3]) fun t104_3 w =>
 rk pr w (sLoad 3 t97_3) t98_3 ∧
 cl pr E w n_sv_tell #[a0, t98_3, t104_3] fun _ w =>
 (fun w =>
 oz pr (sNil a0) fun t107_3 =>
 oz pr (sFA 174 t107_3 0) fun t108_3 =>
 oa pr w (sLoad 109 t108_3) fun t109_3 =>
 oz pr (sNil t67) fun t111_3 =>
 oz pr (sFA 209 t111_3 0) fun t112_3 =>
 oa pr w (sLoad 5 t112_3) fun t113_3 =>
 oa pr w (sLoad 107 t14_1) fun t114_3 =>
 oa pr w (sLoad 107 t16_3) fun t115_3 =>
 oz pr (sNil t109_3) fun _ =>
 o pr E w (sInvoke t109_3 "Two" [t113_3, t114_3, t115_3]) fun t118_3 w =>
 oz pr (sExt t118_3 0) fun t119_3 =>
 oz pr (sExt t118_3 1) fun t120_3 =>
 o pr E w (sStore 107 t6 t119_3) fun _ w =>
 rs pr w t6 107 fun v0_12 =>
 K (.tuple #[v0_12, t120_3]) w) (dr w)) (dr w)))) (dr w)))) (dr w))
  (o pr E w (sNil a0) fun t122 w =>
 o pr E w (sFA 174 t122 0) fun t123 w =>
 o pr E w (sLoad 109 t123) fun t124 w =>
 o pr E w (sInvoke t124 "Whole" []) fun t125 w =>
 o pr E w (sStore 107 t6 t125) fun _ w =>
 rs pr w t6 107 fun v0_13 =>
 K (.tuple #[v0_13, (Value.bool true)]) w))))
def lv_sv_sum : Lives := [(1, [0, 1, 5, 6]), (2, [0, 5, 6, 17]), (3, [0, 5, 6, 17, 19, 20]), (4, [0, 6, 8]), (6, [0, 5, 6, 17, 34, 35]), (7, [5, 6, 9]), (9, [0, 5, 6, 17, 44, 45]), (10, [0, 5, 6, 10]), (11, [0, 6, 11, 12]), (12, [0, 6, 11, 12, 56]), (13, [6, 11, 12]), (15, [0, 5, 6, 66, 67]), (16, [0, 5, 6, 13]), (17, [0, 5, 6, 13, 14, 15]), (18, [0, 5, 6, 13, 14, 79]), (19, [0, 5, 6, 13, 14]), (20, [0, 6, 13, 14, 15, 16]), (21, [0, 6, 13, 14, 16, 92]), (22, [0, 6, 13, 14, 16]), (23, [0, 6, 13, 14, 16]), (24, [0, 6])]
theorem sh_sv_sum_ok (a0 a1 a2 : Value) (w : World) (R : Ending → World → Prop)
 (h : sh_sv_sum (fun v w => R (.returned v) w) (fun c w => R (.panicked c) w) a0 a1 a2 w) : Calls pr n_sv_sum #[a0, a1, a2] w R :=
 calls_of_W (A := lv_sv_sum) enters mixed Go.Proofs.Tryz.func70 (by kernel_rfl) (by kernel_rfl) (by kernel_rfl)
  (Eq.mp (by kernel_rfl) h)
def sh_sv_split (K : Value → World → Prop) (E : PanicK) (a0 a1 a2 : Value) (w : World) : Prop :=
 o pr E w (sBox 171 a0) fun t3 w =>
 o pr E w (sBox 151 a1) fun t4 w =>
 o pr E w (sBox 177 a2) fun t5 w =>
 o pr E w (sAlloc 177) fun t6 w =>
 o pr E w (sAlloc 177) fun t7 w =>
 o pr E w (sFA 177 t5 0) fun t12 w =>
 o pr E w (sLoad 4 t12) fun t13 w =>
 o pr E w (sUn .not 4 t13) fun t14 w =>
 condP t14 (rs pr w t6 177 fun v0_0 =>
 rs pr w t7 177 fun v1_1 =>
 K (.tuple #[v0_0, v1_1]) w)
  (o pr E w (sLoad 171 t3) fun t16 w =>
 o pr E w (sFA 151 t4 0) fun t17 w =>
 o pr E w (sLoad 138 t17) fun t18 w =>
 o pr E w (sLoad 177 t5) fun t19 w =>
 cl pr E w n_sv_sum #[t16, t18, t19] fun t20 w =>
 o pr E w (sExt t20 0) fun t21 w =>
 o pr E w (sExt t20 1) fun t22 w =>
 o pr E w (sAlloc 107) fun t8 w =>
 o pr E w (sStore 107 t8 t21) fun _ w =>
 o pr E w (sUn .not 4 t22) fun t24 w =>
 condP t24 (rs pr w t6 177 fun v0_2 =>
 rs pr w t7 177 fun v1_3 =>
 K (.tuple #[v0_2, v1_3]) w)
  (o pr E w (sLoad 171 t3) fun t26 w =>
 o pr E w (sFA 151 t4 1) fun t27 w =>
 o pr E w (sLoad 138 t27) fun t28 w =>
 o pr E w (sLoad 177 t5) fun t29 w =>
 cl pr E w n_sv_sum #[t26, t28, t29] fun t30 w =>
 o pr E w (sExt t30 0) fun t31 w =>
 o pr E w (sExt t30 1) fun t32 w =>
 o pr E w (sAlloc 107) fun t10 w =>
 o pr E w (sStore 107 t10 t31) fun _ w =>
 o pr E w (sUn .not 4 t32) fun t34 w =>
 condP t34 (rs pr w t6 177 fun v0_4 =>
 rs pr w t7 177 fun v1_5 =>
 K (.tuple #[v0_4, v1_5]) w)
  (o pr E w (sFunc (.func n_sv_split_1) [] [t3, t8, t10, t5, t4]) fun t35 w =>
 (fun w =>
 oz pr (sFA 151 t4 2) fun t37 =>
 oa pr w (sLoad 149 t37) fun t38 =>
 oz pr (sFA 151 t4 2) fun t41 =>
 oa pr w (sLoad 149 t41) fun t42 =>
 o pr E w (sCall t35 [t38]) fun t39 w =>
 rk pr w (sLoad 149 t41) t42 ∧
 cl pr E w n_tree_Rel_Opposite #[t42] fun t43 w =>
 o pr E w (sCall t35 [t43]) fun t44 w =>
 o pr E w (sStore 177 t6 t39) fun _ w =>
 o pr E w (sStore 177 t7 t44) fun _ w =>
 rs pr w t6 177 fun v0_6 =>
 rs pr w t7 177 fun v1_7 =>
 K (.tuple #[v0_6, v1_7]) w) (dr w))))
def lv_sv_split : Lives := [(1, [3, 4, 5, 6, 7]), (2, [3, 4, 5, 6, 7]), (3, [3, 4, 5, 6, 7, 8, 9]), (4, [3, 4, 5, 6, 7, 8]), (5, [3, 4, 5, 6, 7, 8, 9, 10]), (6, [3, 4, 5, 6, 7, 8, 10]), (7, [4, 6, 7, 11])]
theorem sh_sv_split_ok (a0 a1 a2 : Value) (w : World) (R : Ending → World → Prop)
 (h : sh_sv_split (fun v w => R (.returned v) w) (fun c w => R (.panicked c) w) a0 a1 a2 w) : Calls pr n_sv_split #[a0, a1, a2] w R :=
 calls_of_W (A := lv_sv_split) enters mixed Go.Proofs.Tryz.func71 (by kernel_rfl) (by kernel_rfl) (by kernel_rfl)
  (Eq.mp (by kernel_rfl) h)
def sh_sv_tell (K : Value → World → Prop) (E : PanicK) (a0 a1 a2 : Value) (w : World) : Prop :=
 (fun (k0 : Value → World → Prop) =>
 o pr E w (sNil a0) fun t8 w =>
 o pr E w (sFA 174 t8 4) fun t9 w =>
 o pr E w (sLoad 3 t9) fun t10 w =>
 o pr E w (sBinC .gtr 3 t10 (Value.int IntKind.i64 0) 3) fun t11 w =>
 condG t11 false (o pr E w (sBinC .lss 3 a1 (Value.int IntKind.i64 0) 3) fun t14 w =>
 o pr E w (sPick t11 (Value.bool true) t14) fun t15 w =>
 k0 t15 w)
  (o pr E w (sPick t11 (Value.bool true) undef) fun t15_1 w =>
 k0 t15_1 w))
 (fun t6 w =>
 condP t6 (K (.tuple #[]) w)
  (condP a2 (o pr E w (sNil a0) fun t19 w =>
 o pr E w (sFA 174 t19 3) fun t20 w =>
 o pr E w (sLoad 22 t20) fun t21 w =>
 o pr E w (sIA 22 t21 a1) fun t23 w =>
 o pr E w (sStore 3 t23 (Value.int IntKind.i64 2)) fun _ w =>
 K (.tuple #[]) w)
  (o pr E w (sNil a0) fun t26 w =>
 o pr E w (sFA 174 t26 3) fun t27 w =>
 o pr E w (sLoad 22 t27) fun t28 w =>
 o pr E w (sIA 22 t28 a1) fun t30 w =>
 o pr E w (sLoad 3 t30) fun t31 w =>
 o pr E w (sBinC .eql 3 t31 (Value.int IntKind.i64 0) 3) fun t32 w =>
 condP t32 (o pr E w (sNil a0) fun t34 w =>
 o pr E w (sFA 174 t34 3) fun t35 w =>
 o pr E w (sLoad 22 t35) fun t36 w =>
 o pr E w (sIA 22 t36 a1) fun t38 w =>
 o pr E w (sStore 3 t38 (Value.int IntKind.i64 1)) fun _ w =>
 K (.tuple #[]) w)
  (K (.tuple #[]) w))))
def lv_sv_tell : Lives := [(1, [0, 1, 2, 6]), (2, [0, 1, 16]), (4, [0, 1, 24])]
theorem sh_sv_tell_ok (a0 a1 a2 : Value) (w : World) (R : Ending → World → Prop)
 (h : sh_sv_tell (fun v w => R (.returned v) w) (fun c w => R (.panicked c) w) a0 a1 a2 w) : Calls pr n_sv_tell #[a0, a1, a2] w R :=
 calls_of_W (A := lv_sv_tell) enters mixed Go.Proofs.Tryz.func72 (by kernel_rfl) (by kernel_rfl) (by kernel_rfl)
  (Eq.mp (by kernel_rfl) h)
def sh_sv_both (K : Value → World → Prop) (E : PanicK) (a0 a1 a2 : Value) (w : World) : Prop :=
 o pr E w (sBox 177 a1) fun t4 w =>
 o pr E w (sBox 177 a2) fun t5 w =>
 o pr E w (sAlloc 177) fun t6 w =>
 ∃ j1 : List Value → World → Prop, (∀ (e1 : Nat → Value) w, j1 [] w →
 o pr E w (sLoad 177 t4) fun t36 w =>
 o pr E w (sStore 177 t6 t36) fun _ w =>
 rs pr w t6 177 fun v0_0 =>
 K v0_0 w) ∧
 o pr E w (sFA 177 t4 0) fun t8 w =>
 o pr E w (sLoad 4 t8) fun t9 w =>
 o pr E w (sUn .not 4 t9) fun t10 w =>
 condP t10 (o pr E w (sLoad 177 t5) fun t11 w =>
 o pr E w (sStore 177 t6 t11) fun _ w =>
 rs pr w t6 177 fun v0_1 =>
 K v0_1 w)
  (o pr E w (sFA 177 t5 0) fun t12 w =>
 o pr E w (sLoad 4 t12) fun t13 w =>
 condP t13 (∃ (I2 : List Value → World → Prop) (m2 : List Value → World → Nat), I2 [(Value.int IntKind.i64 0)] w ∧
 ∀ (e2 : Nat → Value) w2, I2 [e2 14] w2 → (fun w =>
 o pr E w (sBinC .lss 3 (e2 14) (Value.int IntKind.i64 8) 3) fun t15 w =>
 condP t15 ((fun w =>
 oz pr (sNil a0) fun t19 =>
 oz pr (sFA 174 t19 0) fun t20 =>
 oa pr w (sLoad 109 t20) fun t21 =>
 oz pr (sFA 177 t4 1) fun t23 =>
 oz pr (sIA 175 t23 (e2 14)) fun t24 =>
 oa pr w (sLoad 107 t24) fun t25 =>
 oz pr (sFA 177 t5 1) fun t27 =>
 oz pr (sIA 175 t27 (e2 14)) fun t28 =>
 oa pr w (sLoad 107 t28) fun t29 =>
 oz pr (sNil t21) fun _ =>
 oz pr (sFA 177 t4 1) fun t33 =>
 o pr E w (sInvoke t21 "Join" [t25, t29]) fun t32 w =>
 oz pr (sIA 175 t33 (e2 14)) fun t34 =>
 o pr E w (sStore 107 t34 t32) fun _ w =>
 o pr E w (sBinC .add 3 (e2 14) (Value.int IntKind.i64 1) 3) fun t35 w =>
 I2 [t35] w ∧ m2 [t35] w < m2 [e2 14] w2) (dr w))
  (j1 [] w)) w2)
  (j1 [] w))
def lv_sv_both : Lives := [(1, [0, 4, 5, 6]), (2, [0, 4, 5, 6, 10]), (3, [0, 4, 5, 6]), (4, [0, 4, 5, 6, 13]), (5, [0, 4, 5, 6, 14]), (6, [0, 4, 5, 6, 14, 15]), (7, [0, 4, 5, 6, 7, 14]), (8, [0, 4, 5, 6, 14]), (9, [4, 6])]
theorem sh_sv_both_ok (a0 a1 a2 : Value) (w : World) (R : Ending → World → Prop)
 (h : sh_sv_both (fun v w => R (.returned v) w) (fun c w => R (.panicked c) w) a0 a1 a2 w) : Calls pr n_sv_both #[a0, a1, a2] w R :=
 calls_of_W (A := lv_sv_both) enters mixed Go.Proofs.Tryz.func73 (by kernel_rfl) (by kernel_rfl) (by kernel_rfl)
  (Eq.mp (by kernel_rfl) h)
def ct_sv_loop_1 (E : PanicK) (e1 : Nat → Value) (a0 : Value) (t5 : Value) (t9 : Value) (I1 : List Value → World → Prop) (m1 : List Value → World → Nat) (w1 : World) (j1 : List Value → World → Prop) : World → Prop :=
 (fun w =>
 o pr E w (sBinC .lss 3 (e1 80) (Value.int IntKind.i64 8) 3) fun t1 w =>
 condP t1 ((fun w =>
 oz pr (sNil a0) fun t2 =>
 oz pr (sFA 174 t2 0) fun t3 =>
 oa pr w (sLoad 109 t3) fun t4 =>
 oz pr (sFA 177 t5 1) fun t6 =>
 oz pr (sIA 175 t6 (e1 80)) fun t7 =>
 oa pr w (sLoad 107 t7) fun t8 =>
 oz pr (sFA 177 t9 1) fun t10 =>
 oz pr (sIA 175 t10 (e1 80)) fun t11 =>
 oa pr w (sLoad 107 t11) fun t12 =>
 oz pr (sNil t4) fun _ =>
 oz pr (sFA 177 t9 1) fun t13 =>
 o pr E w (sInvoke t4 "Widen" [t8, t12]) fun t14 w =>
 oz pr (sIA 175 t13 (e1 80)) fun t15 =>
 o pr E w (sStore 107 t15 t14) fun _ w =>
 o pr E w (sBinC .add 3 (e1 80) (Value.int IntKind.i64 1) 3) fun t16 w =>
 I1 [t16] w ∧ m1 [t16] w < m1 [e1 80] w1) (dr w))
  (j1 [] w))
def ct_sv_loop_2 (E : PanicK) (e1 : Nat → Value) (I1 : List Value → World → Prop) (m1 : List Value → World → Nat) (w1 : World) (t3 : Value) (t6 : Value) (a0 : Value) (e3 : Nat → Value) (I2 : List Value → World → Prop) (m2 : List Value → World → Nat) (w2 : World) : World → Prop :=
 (fun w =>
 o pr E w (sBinC .lss 3 (e1 115) (Value.int IntKind.i64 8) 3) fun t1 w =>
 ∃ j1 : List Value → World → Prop, (∀ (e2 : Nat → Value) w, j1 [] w →
 o pr E w (sBinC .add 3 (e1 115) (Value.int IntKind.i64 1) 3) fun t2 w =>
 I1 [t2] w ∧ m1 [t2] w < m1 [e1 115] w1) ∧
 condP t1 ((fun (k1 : Value → World → Prop) =>
 o pr E w (sFA 177 t3 0) fun t4 w =>
 o pr E w (sLoad 4 t4) fun t5 w =>
 condG t5 true (o pr E w (sFA 177 t6 0) fun t7 w =>
 o pr E w (sLoad 4 t7) fun t8 w =>
 o pr E w (sPick t5 t8 (Value.bool false)) fun t9 w =>
 k1 t9 w)
  (o pr E w (sPick t5 undef (Value.bool false)) fun t10 w =>
 k1 t10 w))
 (fun t11 w =>
 condP t11 ((fun w =>
 oz pr (sNil a0) fun t12 =>
 oz pr (sFA 174 t12 0) fun t13 =>
 oa pr w (sLoad 109 t13) fun t14 =>
 oz pr (sFA 177 t3 1) fun t15 =>
 oz pr (sIA 175 t15 (e1 115)) fun t16 =>
 oa pr w (sLoad 107 t16) fun t17 =>
 oz pr (sFA 177 t6 1) fun t18 =>
 oz pr (sIA 175 t18 (e1 115)) fun t19 =>
 oa pr w (sLoad 107 t19) fun t20 =>
 oz pr (sNil t14) fun _ =>
 oz pr (sFA 177 t3 1) fun t21 =>
 o pr E w (sInvoke t14 "Narrow" [t17, t20]) fun t22 w =>
 oz pr (sIA 175 t21 (e1 115)) fun t23 =>
 o pr E w (sStore 107 t23 t22) fun _ w =>
 j1 [] w) (dr w))
  (j1 [] w)))
  (o pr E w (sBinC .add 3 (e3 108) (Value.int IntKind.i64 1) 3) fun t24 w =>
 I2 [t24] w ∧ m2 [t24] w < m2 [e3 108] w2))
def ct_sv_loop_3 (E : PanicK) (e1 : Nat → Value) (t1 : Value) (t3 : Value) (t5 : Value) (a0 : Value) (a1 : Value) (I2 : List Value → World → Prop) (m2 : List Value → World → Nat) (w2 : World) (t27 : Value) (t31 : Value) (K : Value → World → Prop) : World → Prop :=
 (fun w =>
 o pr E w (sBin .lss 3 (e1 108) t1 3) fun t2 w =>
 condP t2 (o pr E w (sLoad 177 t3) fun t4 w =>
 o pr E w (sLoad 177 t5) fun t6 w =>
 cl pr E w n_sv_round #[a0, a1, t4, t6] fun t7 w =>
 o pr E w (sAlloc 177) fun t8 w =>
 o pr E w (sStore 177 t8 t7) fun _ w =>
 ∃ (I1 : List Value → World → Prop) (m1 : List Value → World → Nat), I1 [(Value.int IntKind.i64 0)] w ∧
 ∀ (e2 : Nat → Value) w1, I1 [e2 115] w1 → (ct_sv_loop_2 E e2 I1 m1 w1 t5 t8 a0 e1 I2 m2 w2) w1)
  ((fun w =>
 oz pr (sNil a1) fun t9 =>
 oz pr (sFA 159 t9 0) fun t10 =>
 oz pr (sFA 133 t10 0) fun t11 =>
 oa pr w (sLoad 3 t11) fun t12 =>
 oa pr w (sLoad 177 t5) fun t13 =>
 cl pr E w n_sv_come #[a0, t12, t13] fun _ w =>
 (fun w =>
 oz pr (sNil a1) fun t14 =>
 oz pr (sFA 159 t14 1) fun t15 =>
 oa pr w (sLoad 151 t15) fun t16 =>
 oa pr w (sLoad 177 t5) fun t17 =>
 (cl pr E w n_sv_split #[a0, t16, t17] fun t18 w =>
 oz pr (sExt t18 0) fun t19 =>
 oz pr (sExt t18 1) fun t20 =>
 (o pr E w (sAlloc 177) fun t21 w =>
 o pr E w (sAlloc 177) fun t22 w =>
 o pr E w (sStore 177 t21 t19) fun _ w =>
 o pr E w (sStore 177 t22 t20) fun _ w =>
 (fun w =>
 oz pr (sNil a1) fun t23 =>
 oz pr (sFA 159 t23 2) fun t24 =>
 oa pr w (sLoad 83 t24) fun t25 =>
 oa pr w (sLoad 177 t21) fun t26 =>
 cl pr E w n_sv_list #[a0, t25, t26] fun _ w =>
 o pr E w (sLoad 177 t27) fun t28 w =>
 o pr E w (sLoad 177 t22) fun t29 w =>
 cl pr E w n_sv_both #[a0, t28, t29] fun t30 w =>
 o pr E w (sStore 177 t31 t30) fun _ w =>
 rs pr w t31 177 fun v1_0 =>
 K v1_0 w) (dr w)) ∧
 (o pr E w (sAlloc 177) fun t32 w =>
 o pr E w (sAlloc 177) fun t33 w =>
 o pr E w (sStore 177 t33 t19) fun _ w =>
 o pr E w (sStore 177 t32 t20) fun _ w =>
 (fun w =>
 oz pr (sNil a1) fun t34 =>
 oz pr (sFA 159 t34 2) fun t35 =>
 oa pr w (sLoad 83 t35) fun t36 =>
 oa pr w (sLoad 177 t33) fun t37 =>
 cl pr E w n_sv_list #[a0, t36, t37] fun _ w =>
 o pr E w (sLoad 177 t27) fun t38 w =>
 o pr E w (sLoad 177 t32) fun t39 w =>
 cl pr E w n_sv_both #[a0, t38, t39] fun t40 w =>
 o pr E w (sStore 177 t31 t40) fun _ w =>
 rs pr w t31 177 fun v2_0 =>
 K v2_0 w) (dr w))) ∧
 (o pr E w (sAlloc 177) fun t41 w =>
 rk pr w (sLoad 177 t5) t17 ∧
 rk pr w (sLoad 151 t15) t16 ∧
 (cl pr E w n_sv_split #[a0, t16, t17] fun t42 w =>
 oz pr (sExt t42 0) fun t43 =>
 oz pr (sExt t42 1) fun t44 =>
 o pr E w (sAlloc 177) fun t45 w =>
 o pr E w (sStore 177 t41 t43) fun _ w =>
 o pr E w (sStore 177 t45 t44) fun _ w =>
 (fun w =>
 oz pr (sNil a1) fun t46 =>
 oz pr (sFA 159 t46 2) fun t47 =>
 oa pr w (sLoad 83 t47) fun t48 =>
 oa pr w (sLoad 177 t41) fun t49 =>
 cl pr E w n_sv_list #[a0, t48, t49] fun _ w =>
 o pr E w (sLoad 177 t27) fun t50 w =>
 o pr E w (sLoad 177 t45) fun t51 w =>
 cl pr E w n_sv_both #[a0, t50, t51] fun t52 w =>
 o pr E w (sStore 177 t31 t52) fun _ w =>
 rs pr w t31 177 fun v3_0 =>
 K v3_0 w) (dr w)) ∧
 (o pr E w (sAlloc 177) fun t53 w =>
 rk pr w (sLoad 177 t5) t17 ∧
 rk pr w (sLoad 151 t15) t16 ∧
 cl pr E w n_sv_split #[a0, t16, t17] fun t54 w =>
 oz pr (sExt t54 0) fun t55 =>
 oz pr (sExt t54 1) fun t56 =>
 o pr E w (sStore 177 t41 t55) fun _ w =>
 o pr E w (sStore 177 t53 t56) fun _ w =>
 (fun w =>
 oz pr (sNil a1) fun t57 =>
 oz pr (sFA 159 t57 2) fun t58 =>
 oa pr w (sLoad 83 t58) fun t59 =>
 oa pr w (sLoad 177 t41) fun t60 =>
 cl pr E w n_sv_list #[a0, t59, t60] fun _ w =>
 o pr E w (sLoad 177 t27) fun t61 w =>
 o pr E w (sLoad 177 t53) fun t62 w =>
 cl pr E w n_sv_both #[a0, t61, t62] fun t63 w =>
 o pr E w (sStore 177 t31 t63) fun _ w =>
 rs pr w t31 177 fun v4_0 =>
 K v4_0 w) (dr w))) ∧
 (o pr E w (sAlloc 177) fun t64 w =>
 rk pr w (sLoad 177 t5) t17 ∧
 rk pr w (sLoad 151 t15) t16 ∧
 (cl pr E w n_sv_split #[a0, t16, t17] fun t65 w =>
 oz pr (sExt t65 0) fun t66 =>
 oz pr (sExt t65 1) fun t67 =>
 o pr E w (sAlloc 177) fun t68 w =>
 o pr E w (sStore 177 t68 t66) fun _ w =>
 o pr E w (sStore 177 t64 t67) fun _ w =>
 (fun w =>
 oz pr (sNil a1) fun t69 =>
 oz pr (sFA 159 t69 2) fun t70 =>
 oa pr w (sLoad 83 t70) fun t71 =>
 oa pr w (sLoad 177 t68) fun t72 =>
 cl pr E w n_sv_list #[a0, t71, t72] fun _ w =>
 o pr E w (sLoad 177 t27) fun t73 w =>
 o pr E w (sLoad 177 t64) fun t74 w =>
 cl pr E w n_sv_both #[a0, t73, t74] fun t75 w =>
 o pr E w (sStore 177 t31 t75) fun _ w =>
 rs pr w t31 177 fun v5_0 =>
 K v5_0 w) (dr w)) ∧
 (o pr E w (sAlloc 177) fun t76 w =>
 rk pr w (sLoad 177 t5) t17 ∧
 rk pr w (sLoad 151 t15) t16 ∧
 cl pr E w n_sv_split #[a0, t16, t17] fun t77 w =>
 oz pr (sExt t77 0) fun t78 =>
 oz pr (sExt t77 1) fun t79 =>
 o pr E w (sStore 177 t76 t78) fun _ w =>
 o pr E w (sStore 177 t64 t79) fun _ w =>
 (fun w =>
 oz pr (sNil a1) fun t80 =>
 oz pr (sFA 159 t80 2) fun t81 =>
 oa pr w (sLoad 83 t81) fun t82 =>
 oa pr w (sLoad 177 t76) fun t83 =>
 cl pr E w n_sv_list #[a0, t82, t83] fun _ w =>
 o pr E w (sLoad 177 t27) fun t84 w =>
 o pr E w (sLoad 177 t64) fun t85 w =>
 cl pr E w n_sv_both #[a0, t84, t85] fun t86 w =>
 o pr E w (sStore 177 t31 t86) fun _ w =>
 rs pr w t31 177 fun v6_0 =>
 K v6_0 w) (dr w)))) (dr w)) (dr w)))
def ct_sv_loop_4 (E : PanicK) (e2 : Nat → Value) (I1 : List Value → World → Prop) (m1 : List Value → World → Nat) (w1 : World) (t2 : Value) (t4 : Value) (a0 : Value) (a1 : Value) (t18 : Value) (t19 : Value) (K : Value → World → Prop) : World → Prop :=
 (fun w =>
 ∃ j1 : List Value → World → Prop, (∀ (e1 : Nat → Value) w, j1 [] w →
 o pr E w (sBinC .add 3 (e2 11) (Value.int IntKind.i64 1) 3) fun t1 w =>
 I1 [t1] w ∧ m1 [t1] w < m1 [e2 11] w1) ∧
 (fun w =>
 oa pr w (sLoad 177 t2) fun t3 =>
 oa pr w (sLoad 177 t4) fun t5 =>
 oa pr w (sLoad 177 t2) fun t6 =>
 (cl pr E w n_sv_round #[a0, a1, t5, t6] fun t7 w =>
 rk pr w (sLoad 177 t2) t3 ∧
 (cl pr E w n_sv_both #[a0, t3, t7] fun t8 w =>
 o pr E w (sAlloc 177) fun t9 w =>
 o pr E w (sStore 177 t9 t8) fun _ w =>
 ∃ j2 : List Value → World → Prop, (∀ (e3 : Nat → Value) w, j2 [] w →
 o pr E w (sLoad 177 t9) fun t10 w =>
 o pr E w (sStore 177 t2 t10) fun _ w =>
 j1 [] w) ∧
 o pr E w (sLoad 177 t9) fun t11 w =>
 o pr E w (sLoad 177 t2) fun t12 w =>
 o pr E w (sBin .eql 177 t11 t12 177) fun t13 w =>
 condP t13 (o pr E w (sNil a0) fun t14 w =>
 o pr E w (sFA 174 t14 1) fun t15 w =>
 o pr E w (sFA 26 t15 2) fun t16 w =>
 o pr E w (sLoad 3 t16) fun t17 w =>
 ∃ (I2 : List Value → World → Prop) (m2 : List Value → World → Nat), I2 [(Value.int IntKind.i64 0)] w ∧
 ∀ (e4 : Nat → Value) w2, I2 [e4 108] w2 → (ct_sv_loop_3 E e4 t17 t4 t2 a0 a1 I2 m2 w2 t18 t19 K) w2)
  ((fun (k1 : Value → World → Prop) =>
 o pr E w (sFA 177 t2 0) fun t20 w =>
 o pr E w (sLoad 4 t20) fun t21 w =>
 condG t21 true (o pr E w (sNil a0) fun t22 w =>
 o pr E w (sFA 174 t22 1) fun t23 w =>
 o pr E w (sFA 26 t23 1) fun t24 w =>
 o pr E w (sLoad 3 t24) fun t25 w =>
 o pr E w (sBin .gtr 3 (e2 11) t25 3) fun t26 w =>
 o pr E w (sPick t21 t26 (Value.bool false)) fun t27 w =>
 k1 t27 w)
  (o pr E w (sPick t21 undef (Value.bool false)) fun t28 w =>
 k1 t28 w))
 (fun t29 w =>
 condP t29 (∃ (I3 : List Value → World → Prop) (m3 : List Value → World → Nat), I3 [(Value.int IntKind.i64 0)] w ∧
 ∀ (e5 : Nat → Value) w3, I3 [e5 80] w3 → (ct_sv_loop_1 E e5 a0 t2 t9 I3 m3 w3 j2) w3)
  (j2 [] w)))) ∧
 (o pr E w (sAlloc 177) fun t30 w =>
 rk pr w (sLoad 177 t2) t3 ∧
 cl pr E w n_sv_both #[a0, t3, t7] fun t31 w =>
 o pr E w (sStore 177 t30 t31) fun _ w =>
 ∃ j3 : List Value → World → Prop, (∀ (e6 : Nat → Value) w, j3 [] w →
 o pr E w (sLoad 177 t30) fun t32 w =>
 o pr E w (sStore 177 t2 t32) fun _ w =>
 j1 [] w) ∧
 o pr E w (sLoad 177 t30) fun t33 w =>
 o pr E w (sLoad 177 t2) fun t34 w =>
 o pr E w (sBin .eql 177 t33 t34 177) fun t35 w =>
 condP t35 (o pr E w (sNil a0) fun t36 w =>
 o pr E w (sFA 174 t36 1) fun t37 w =>
 o pr E w (sFA 26 t37 2) fun t38 w =>
 o pr E w (sLoad 3 t38) fun t39 w =>
 ∃ (I4 : List Value → World → Prop) (m4 : List Value → World → Nat), I4 [(Value.int IntKind.i64 0)] w ∧
 ∀ (e7 : Nat → Value) w4, I4 [e7 108] w4 → (ct_sv_loop_3 E e7 t39 t4 t2 a0 a1 I4 m4 w4 t18 t19 K) w4)
  ((fun (k1 : Value → World → Prop) =>
 o pr E w (sFA 177 t2 0) fun t40 w =>
 o pr E w (sLoad 4 t40) fun t41 w =>
 condG t41 true (o pr E w (sNil a0) fun t42 w =>
 o pr E w (sFA 174 t42 1) fun t43 w =>
 o pr E w (sFA 26 t43 1) fun t44 w =>
 o pr E w (sLoad 3 t44) fun t45 w =>
 o pr E w (sBin .gtr 3 (e2 11) t45 3) fun t46 w =>
 o pr E w (sPick t41 t46 (Value.bool false)) fun t47 w =>
 k1 t47 w)
  (o pr E w (sPick t41 undef (Value.bool false)) fun t48 w =>
 k1 t48 w))
 (fun t49 w =>
 condP t49 (∃ (I5 : List Value → World → Prop) (m5 : List Value → World → Nat), I5 [(Value.int IntKind.i64 0)] w ∧
 ∀ (e8 : Nat → Value) w5, I5 [e8 80] w5 → (ct_sv_loop_1 E e8 a0 t2 t30 I5 m5 w5 j3) w5)
  (j3 [] w))))) ∧
 (o pr E w (sAlloc 177) fun t50 w =>
 rk pr w (sLoad 177 t2) t6 ∧
 rk pr w (sLoad 177 t4) t5 ∧
 rk pr w (sLoad 177 t2) t3 ∧
 cl pr E w n_sv_round #[a0, a1, t5, t6] fun t51 w =>
 rk pr w (sLoad 177 t2) t3 ∧
 cl pr E w n_sv_both #[a0, t3, t51] fun t52 w =>
 o pr E w (sStore 177 t50 t52) fun _ w =>
 ∃ j4 : List Value → World → Prop, (∀ (e9 : Nat → Value) w, j4 [] w →
 o pr E w (sLoad 177 t50) fun t53 w =>
 o pr E w (sStore 177 t2 t53) fun _ w =>
 j1 [] w) ∧
 o pr E w (sLoad 177 t50) fun t54 w =>
 o pr E w (sLoad 177 t2) fun t55 w =>
 o pr E w (sBin .eql 177 t54 t55 177) fun t56 w =>
 condP t56 (o pr E w (sNil a0) fun t57 w =>
 o pr E w (sFA 174 t57 1) fun t58 w =>
 o pr E w (sFA 26 t58 2) fun t59 w =>
 o pr E w (sLoad 3 t59) fun t60 w =>
 ∃ (I6 : List Value → World → Prop) (m6 : List Value → World → Nat), I6 [(Value.int IntKind.i64 0)] w ∧
 ∀ (e10 : Nat → Value) w6, I6 [e10 108] w6 → (ct_sv_loop_3 E e10 t60 t4 t2 a0 a1 I6 m6 w6 t18 t19 K) w6)
  ((fun (k1 : Value → World → Prop) =>
 o pr E w (sFA 177 t2 0) fun t61 w =>
 o pr E w (sLoad 4 t61) fun t62 w =>
 condG t62 true (o pr E w (sNil a0) fun t63 w =>
 o pr E w (sFA 174 t63 1) fun t64 w =>
 o pr E w (sFA 26 t64 1) fun t65 w =>
 o pr E w (sLoad 3 t65) fun t66 w =>
 o pr E w (sBin .gtr 3 (e2 11) t66 3) fun t67 w =>
 o pr E w (sPick t62 t67 (Value.bool false)) fun t68 w =>
 k1 t68 w)
  (o pr E w (sPick t62 undef (Value.bool false)) fun t69 w =>
 k1 t69 w))
 (fun t70 w =>
 condP t70 (∃ (I7 : List Value → World → Prop) (m7 : List Value → World → Nat), I7 [(Value.int IntKind.i64 0)] w ∧
 ∀ (e11 : Nat → Value) w7, I7 [e11 80] w7 → (ct_sv_loop_1 E e11 a0 t2 t50 I7 m7 w7 j4) w7)
  (j4 [] w))))) (dr w))
def ct_sv_loop_5 (E : PanicK) (e1 : Nat → Value) (t1 : Value) (a1 : Value) (t7 : Value) (a0 : Value) (t18 : Value) (I1 : List Value → World → Prop) (m1 : List Value → World → Nat) (w1 : World) (t95 : Value) (K : Value → World → Prop) : World → Prop :=
 (fun w =>
 o pr E w (sBin .lss 3 (e1 23) t1 3) fun t2 w =>
 condP t2 ((fun w =>
 oz pr (sNil a1) fun t3 =>
 oz pr (sFA 159 t3 0) fun t4 =>
 oz pr (sFA 133 t4 0) fun t5 =>
 oa pr w (sLoad 3 t5) fun t6 =>
 oa pr w (sLoad 177 t7) fun t8 =>
 cl pr E w n_sv_come #[a0, t6, t8] fun _ w =>
 (fun w =>
 oz pr (sNil a1) fun t9 =>
 oz pr (sFA 159 t9 1) fun t10 =>
 oa pr w (sLoad 151 t10) fun t11 =>
 oa pr w (sLoad 177 t7) fun t12 =>
 (cl pr E w n_sv_split #[a0, t11, t12] fun t13 w =>
 oz pr (sExt t13 0) fun t14 =>
 oz pr (sExt t13 1) fun t15 =>
 (o pr E w (sAlloc 177) fun t16 w =>
 o pr E w (sAlloc 177) fun t17 w =>
 o pr E w (sStore 177 t16 t14) fun _ w =>
 o pr E w (sStore 177 t17 t15) fun _ w =>
 o pr E w (sLoad 177 t18) fun t19 w =>
 o pr E w (sLoad 177 t17) fun t20 w =>
 cl pr E w n_sv_both #[a0, t19, t20] fun t21 w =>
 o pr E w (sStore 177 t18 t21) fun _ w =>
 (fun w =>
 oz pr (sNil a1) fun t22 =>
 oz pr (sFA 159 t22 2) fun t23 =>
 oa pr w (sLoad 83 t23) fun t24 =>
 oa pr w (sLoad 177 t16) fun t25 =>
 cl pr E w n_sv_list #[a0, t24, t25] fun t26 w =>
 o pr E w (sStore 177 t7 t26) fun _ w =>
 o pr E w (sBinC .add 3 (e1 23) (Value.int IntKind.i64 1) 3) fun t27 w =>
 I1 [t27] w ∧ m1 [t27] w < m1 [e1 23] w1) (dr w)) ∧
 (o pr E w (sAlloc 177) fun t28 w =>
 o pr E w (sAlloc 177) fun t29 w =>
 o pr E w (sStore 177 t29 t14) fun _ w =>
 o pr E w (sStore 177 t28 t15) fun _ w =>
 o pr E w (sLoad 177 t18) fun t30 w =>
 o pr E w (sLoad 177 t28) fun t31 w =>
 cl pr E w n_sv_both #[a0, t30, t31] fun t32 w =>
 o pr E w (sStore 177 t18 t32) fun _ w =>
 (fun w =>
 oz pr (sNil a1) fun t33 =>
 oz pr (sFA 159 t33 2) fun t34 =>
 oa pr w (sLoad 83 t34) fun t35 =>
 oa pr w (sLoad 177 t29) fun t36 =>
 cl pr E w n_sv_list #[a0, t35, t36] fun t37 w =>
 o pr E w (sStore 177 t7 t37) fun _ w =>
 o pr E w (sBinC .add 3 (e1 23) (Value.int IntKind.i64 1) 3) fun t38 w =>
 I1 [t38] w ∧ m1 [t38] w < m1 [e1 23] w1) (dr w))) ∧
 (o pr E w (sAlloc 177) fun t39 w =>
 rk pr w (sLoad 177 t7) t12 ∧
 rk pr w (sLoad 151 t10) t11 ∧
 (cl pr E w n_sv_split #[a0, t11, t12] fun t40 w =>
 oz pr (sExt t40 0) fun t41 =>
 oz pr (sExt t40 1) fun t42 =>
 o pr E w (sAlloc 177) fun t43 w =>
 o pr E w (sStore 177 t39 t41) fun _ w =>
 o pr E w (sStore 177 t43 t42) fun _ w =>
 o pr E w (sLoad 177 t18) fun t44 w =>
 o pr E w (sLoad 177 t43) fun t45 w =>
 cl pr E w n_sv_both #[a0, t44, t45] fun t46 w =>
 o pr E w (sStore 177 t18 t46) fun _ w =>
 (fun w =>
 oz pr (sNil a1) fun t47 =>
 oz pr (sFA 159 t47 2) fun t48 =>
 oa pr w (sLoad 83 t48) fun t49 =>
 oa pr w (sLoad 177 t39) fun t50 =>
 cl pr E w n_sv_list #[a0, t49, t50] fun t51 w =>
 o pr E w (sStore 177 t7 t51) fun _ w =>
 o pr E w (sBinC .add 3 (e1 23) (Value.int IntKind.i64 1) 3) fun t52 w =>
 I1 [t52] w ∧ m1 [t52] w < m1 [e1 23] w1) (dr w)) ∧
 (o pr E w (sAlloc 177) fun t53 w =>
 rk pr w (sLoad 177 t7) t12 ∧
 rk pr w (sLoad 151 t10) t11 ∧
 cl pr E w n_sv_split #[a0, t11, t12] fun t54 w =>
 oz pr (sExt t54 0) fun t55 =>
 oz pr (sExt t54 1) fun t56 =>
 o pr E w (sStore 177 t39 t55) fun _ w =>
 o pr E w (sStore 177 t53 t56) fun _ w =>
 o pr E w (sLoad 177 t18) fun t57 w =>
 o pr E w (sLoad 177 t53) fun t58 w =>
 cl pr E w n_sv_both #[a0, t57, t58] fun t59 w =>
 o pr E w (sStore 177 t18 t59) fun _ w =>
 (fun w =>
 oz pr (sNil a1) fun t60 =>
 oz pr (sFA 159 t60 2) fun t61 =>
 oa pr w (sLoad 83 t61) fun t62 =>
 oa pr w (sLoad 177 t39) fun t63 =>
 cl pr E w n_sv_list #[a0, t62, t63] fun t64 w =>
 o pr E w (sStore 177 t7 t64) fun _ w =>
 o pr E w (sBinC .add 3 (e1 23) (Value.int IntKind.i64 1) 3) fun t65 w =>
 I1 [t65] w ∧ m1 [t65] w < m1 [e1 23] w1) (dr w))) ∧
 (o pr E w (sAlloc 177) fun t66 w =>
 rk pr w (sLoad 177 t7) t12 ∧
 rk pr w (sLoad 151 t10) t11 ∧
 (cl pr E w n_sv_split #[a0, t11, t12] fun t67 w =>
 oz pr (sExt t67 0) fun t68 =>
 oz pr (sExt t67 1) fun t69 =>
 o pr E w (sAlloc 177) fun t70 w =>
 o pr E w (sStore 177 t70 t68) fun _ w =>
 o pr E w (sStore 177 t66 t69) fun _ w =>
 o pr E w (sLoad 177 t18) fun t71 w =>
 o pr E w (sLoad 177 t66) fun t72 w =>
 cl pr E w n_sv_both #[a0, t71, t72] fun t73 w =>
 o pr E w (sStore 177 t18 t73) fun _ w =>
 (fun w =>
 oz pr (sNil a1) fun t74 =>
 oz pr (sFA 159 t74 2) fun t75 =>
 oa pr w (sLoad 83 t75) fun t76 =>
 oa pr w (sLoad 177 t70) fun t77 =>
 cl pr E w n_sv_list #[a0, t76, t77] fun t78 w =>
 o pr E w (sStore 177 t7 t78) fun _ w =>
 o pr E w (sBinC .add 3 (e1 23) (Value.int IntKind.i64 1) 3) fun t79 w =>
 I1 [t79] w ∧ m1 [t79] w < m1 [e1 23] w1) (dr w)) ∧
 (o pr E w (sAlloc 177) fun t80 w =>
 rk pr w (sLoad 177 t7) t12 ∧
 rk pr w (sLoad 151 t10) t11 ∧
 cl pr E w n_sv_split #[a0, t11, t12] fun t81 w =>
 oz pr (sExt t81 0) fun t82 =>
 oz pr (sExt t81 1) fun t83 =>
 o pr E w (sStore 177 t80 t82) fun _ w =>
 o pr E w (sStore 177 t66 t83) fun _ w =>
 o pr E w (sLoad 177 t18) fun t84 w =>
 o pr E w (sLoad 177 t66) fun t85 w =>
 cl pr E w n_sv_both #[a0, t84, t85] fun t86 w =>
 o pr E w (sStore 177 t18 t86) fun _ w =>
 (fun w =>
 oz pr (sNil a1) fun t87 =>
 oz pr (sFA 159 t87 2) fun t88 =>
 oa pr w (sLoad 83 t88) fun t89 =>
 oa pr w (sLoad 177 t80) fun t90 =>
 cl pr E w n_sv_list #[a0, t89, t90] fun t91 w =>
 o pr E w (sStore 177 t7 t91) fun _ w =>
 o pr E w (sBinC .add 3 (e1 23) (Value.int IntKind.i64 1) 3) fun t92 w =>
 I1 [t92] w ∧ m1 [t92] w < m1 [e1 23] w1) (dr w)))) (dr w)) (dr w))
  (o pr E w (sLoad 177 t7) fun t93 w =>
 o pr E w (sAlloc 177) fun t94 w =>
 o pr E w (sStore 177 t94 t93) fun _ w =>
 ∃ (I2 : List Value → World → Prop) (m2 : List Value → World → Nat), I2 [(Value.int IntKind.i64 1)] w ∧
 ∀ (e2 : Nat → Value) w2, I2 [e2 11] w2 → (ct_sv_loop_4 E e2 I2 m2 w2 t94 t7 a0 a1 t18 t95 K) w2))
def sh_sv_loop (K : Value → World → Prop) (E : PanicK) (a0 a1 a2 : Value) (w : World) : Prop :=
 o pr E w (sBox 177 a2) fun t5 w =>
 o pr E w (sAlloc 177) fun t6 w =>
 o pr E w (sAlloc 177) fun t7 w =>
 o pr E w (sNil a0) fun t19 w =>
 o pr E w (sFA 174 t19 1) fun t20 w =>
 o pr E w (sFA 26 t20 3) fun t21 w =>
 o pr E w (sLoad 3 t21) fun t22 w =>
 ∃ (I1 : List Value → World → Prop) (m1 : List Value → World → Nat), I1 [(Value.int IntKind.i64 0)] w ∧
 ∀ (e1 : Nat → Value) w1, I1 [e1 23] w1 → (ct_sv_loop_5 E e1 t22 a1 t5 a0 t7 I1 m1 w1 t6 K) w1
def lv_sv_loop : Lives := [(1, [0, 1, 5, 6]), (2, [0, 1, 5, 6, 7]), (3, [0, 1, 5, 6, 7, 22, 23]), (4, [0, 1, 5, 6, 7, 22, 23, 24]), (5, [0, 1, 5, 6, 7, 22, 23]), (6, [0, 1, 5, 6, 7, 8, 9, 22, 23]), (7, [0, 1, 5, 6, 7, 8, 22, 23]), (8, [0, 1, 5, 6, 7, 22, 23]), (9, [0, 1, 5, 6, 7]), (10, [0, 1, 5, 6, 7, 10]), (11, [0, 1, 5, 6, 7, 10, 11]), (12, [0, 1, 5, 6, 7, 10, 11]), (13, [0, 1, 5, 6, 7, 10, 11, 12]), (14, [0, 1, 5, 6, 7, 10, 11, 12]), (15, [0, 1, 5, 6, 7, 10, 11, 12, 79]), (16, [0, 1, 5, 6, 7, 10, 11, 12, 80]), (17, [0, 1, 5, 6, 7, 10, 11, 12, 80, 81]), (18, [0, 1, 5, 6, 7, 10, 11, 12, 13, 80]), (19, [0, 1, 5, 6, 7, 10, 11, 12, 80]), (20, [0, 1, 5, 6, 7, 10, 11, 12]), (21, [0, 1, 5, 6, 7, 10]), (22, [0, 1, 5, 6, 7, 10, 107, 108]), (23, [0, 1, 5, 6, 7, 10, 107, 108, 109]), (24, [0, 1, 5, 6, 7, 10, 14, 107, 108]), (25, [0, 1, 5, 6, 7, 10, 14, 107, 108, 115]), (26, [0, 1, 5, 6, 7, 10, 14, 107, 108, 115, 116]), (27, [0, 1, 5, 6, 7, 10, 14, 15, 107, 108, 115]), (28, [0, 1, 5, 6, 7, 10, 14, 15, 107, 108, 115, 123]), (29, [0, 1, 5, 6, 7, 10, 14, 107, 108, 115]), (30, [0, 1, 5, 6, 7, 10, 107, 108]), (31, [0, 1, 6, 7, 10]), (32, [0, 1, 6, 7, 10]), (33, [0, 1, 6, 7, 16, 17]), (34, [0, 6, 7, 17])]
theorem sh_sv_loop_ok (a0 a1 a2 : Value) (w : World) (R : Ending → World → Prop)
 (h : sh_sv_loop (fun v w => R (.returned v) w) (fun c w => R (.panicked c) w) a0 a1 a2 w) : Calls pr n_sv_loop #[a0, a1, a2] w R :=
 calls_of_W (A := lv_sv_loop) enters mixed Go.Proofs.Tryz.func74 (by kernel_rfl) (by kernel_rfl) (by kernel_rfl)
  (Eq.mp (by kernel_rfl) h)
def sh_sv_split_1 (K : Value → World → Prop) (E : PanicK) (a0 a1 a2 a3 a4 a5 : Value) (w : World) : Prop :=
 o pr E w (sAlloc 177) fun t7 w =>
 (fun w =>
 oa pr w (sLoad 171 a1) fun t19 =>
 oz pr (sNil t19) fun t20 =>
 oz pr (sFA 174 t20 0) fun t21 =>
 oa pr w (sLoad 109 t21) fun t22 =>
 oa pr w (sLoad 107 a2) fun t23 =>
 oa pr w (sLoad 107 a3) fun t25 =>
 (o pr E w (sInvoke t22 "Bounds" [t23, a0, t25]) fun t26 w =>
 oz pr (sExt t26 0) fun t27 =>
 oz pr (sExt t26 1) fun t28 =>
 oz pr (sExt t26 2) fun t29 =>
 oz pr (sExt t26 3) fun t30 =>
 (o pr E w (sAlloc 107) fun t8 w =>
 o pr E w (sAlloc 107) fun t9 w =>
 o pr E w (sStore 107 t8 t27) fun _ w =>
 o pr E w (sStore 107 t9 t28) fun _ w =>
 o pr E w (sUn .not 4 t30) fun t32 w =>
 condP t32 (rs pr w t7 177 fun v0_0 =>
 K v0_0 w)
  (o pr E w (sLoad 177 a4) fun t33 w =>
 o pr E w (sStore 177 t7 t33) fun _ w =>
 o pr E w (sUn .not 4 t29) fun t35 w =>
 condP t35 (rs pr w t7 177 fun v0_1 =>
 K v0_1 w)
  (o pr E w (sFA 151 a5 0) fun t36 w =>
 o pr E w (sLoad 138 t36) fun t37 w =>
 o pr E w (sLoad 107 t8) fun t38 w =>
 o pr E w (sBuild 247 [(0, t37), (1, t38)]) fun t39 w =>
 o pr E w (sFA 151 a5 1) fun t40 w =>
 o pr E w (sLoad 138 t40) fun t41 w =>
 o pr E w (sLoad 107 t9) fun t42 w =>
 o pr E w (sBuild 247 [(0, t41), (1, t42)]) fun t43 w =>
 o pr E w (sBuildSlice 248 2 [(0, t39), (1, t43)]) fun t44 w =>
 o pr E w (sB .len [248] 3 [t44]) fun t45 w =>
 ∃ (I1 : List Value → World → Prop) (m1 : List Value → World → Nat), I1 [(Value.int IntKind.i64 0)] w ∧
 ∀ (e1 : Nat → Value) w1, I1 [e1 46] w1 → (fun w =>
 o pr E w (sBin .lss 3 (e1 46) t45 3) fun t47 w =>
 ∃ j2 : List Value → World → Prop, (∀ (e2 : Nat → Value) w, j2 [] w →
 o pr E w (sBinC .add 3 (e1 46) (Value.int IntKind.i64 1) 3) fun t86 w =>
 I1 [t86] w ∧ m1 [t86] w < m1 [e1 46] w1) ∧
 condP t47 (o pr E w (sIA 248 t44 (e1 46)) fun t48 w =>
 o pr E w (sLoad 247 t48) fun t49 w =>
 o pr E w (sAlloc 247) fun t13 w =>
 o pr E w (sStore 247 t13 t49) fun _ w =>
 o pr E w (sFA 247 t13 0) fun t51 w =>
 o pr E w (sLoad 138 t51) fun t52 w =>
 o pr E w (sAssert t52 138 201 true) fun t53 w =>
 o pr E w (sExt t53 0) fun t54 w =>
 o pr E w (sExt t53 1) fun t55 w =>
 condP t55 ((fun w =>
 oa pr w (sLoad 171 a1) fun t58 =>
 oz pr (sNil t58) fun t59 =>
 oz pr (sFA 174 t59 0) fun t60 =>
 oa pr w (sLoad 109 t60) fun t61 =>
 oz pr (sNil t54) fun t63 =>
 oz pr (sFA 203 t63 0) fun t64 =>
 oa pr w (sLoad 3 t64) fun t65 =>
 oz pr (sFA 177 t7 1) fun t66 =>
 oz pr (sIA 175 t66 t65) fun t67 =>
 oa pr w (sLoad 107 t67) fun t68 =>
 oz pr (sFA 247 t13 1) fun t69 =>
 oa pr w (sLoad 107 t69) fun t70 =>
 oz pr (sNil t61) fun _ =>
 (o pr E w (sInvoke t61 "Meet" [t68, t70]) fun t73 w =>
 oz pr (sExt t73 0) fun t74 =>
 oz pr (sExt t73 1) fun t75 =>
 o pr E w (sAlloc 107) fun t16 w =>
 o pr E w (sStore 107 t16 t74) fun _ w =>
 o pr E w (sUn .not 4 t75) fun t77 w =>
 condP t77 (o pr E w (sBuild 177 []) fun t78 w =>
 o pr E w (sStore 177 t7 t78) fun _ w =>
 rs pr w t7 177 fun v0_2 =>
 K v0_2 w)
  ((fun w =>
 oz pr (sNil t54) fun t80 =>
 oz pr (sFA 203 t80 0) fun t81 =>
 oa pr w (sLoad 3 t81) fun t82 =>
 oa pr w (sLoad 107 t16) fun t83 =>
 oz pr (sFA 177 t7 1) fun t84 =>
 oz pr (sIA 175 t84 t82) fun t85 =>
 o pr E w (sStore 107 t85 t83) fun _ w =>
 j2 [] w) (dr w))) ∧
 (o pr E w (sAlloc 107) fun t16_1 w =>
 rk pr w (sLoad 107 t69) t70 ∧
 rk pr w (sLoad 107 t67) t68 ∧
 rk pr w (sLoad 3 t64) t65 ∧
 rk pr w (sLoad 109 t60) t61 ∧
 rk pr w (sLoad 171 a1) t58 ∧
 o pr E w (sInvoke t61 "Meet" [t68, t70]) fun t73_1 w =>
 oz pr (sExt t73_1 0) fun t74_1 =>
 oz pr (sExt t73_1 1) fun t75_1 =>
 o pr E w (sStore 107 t16_1 t74_1) fun _ w =>
 o pr E w (sUn .not 4 t75_1) fun t77_1 w =>
 condP t77_1 (o pr E w (sBuild 177 []) fun t78_1 w =>
 o pr E w (sStore 177 t7 t78_1) fun _ w =>
 rs pr w t7 177 fun v0_3 =>
 K v0_3 w)
  ((fun w =>
 oz pr (sNil t54) fun t80_1 =>
 oz pr (sFA 203 t80_1 0) fun t81_1 =>
 oa pr w (sLoad 3 t81_1) fun t82_1 =>
 oa pr w (sLoad 107 t16_1) fun t83_1 =>
 oz pr (sFA 177 t7 1) fun t84_1 =>
 oz pr (sIA 175 t84_1 t82_1) fun t85_1 =>
 o pr E w (sStore 107 t85_1 t83_1) fun _ w =>
 j2 [] w) (dr w)))) (dr w))
  (j2 [] w))
  (o pr E w (sLoad 177 t7) fun t87 w =>
 o pr E w (sStore 177 t7 t87) fun _ w =>
 rs pr w t7 177 fun v0_4 =>
 K v0_4 w)) w1))) ∧
 (o pr E w (sAlloc 107) fun t9_1 w =>
 o pr E w (sAlloc 107) fun t8_1 w =>
 o pr E w (sStore 107 t8_1 t27) fun _ w =>
 o pr E w (sStore 107 t9_1 t28) fun _ w =>
 o pr E w (sUn .not 4 t30) fun t32_1 w =>
 condP t32_1 (rs pr w t7 177 fun v0_5 =>
 K v0_5 w)
  (o pr E w (sLoad 177 a4) fun t33_1 w =>
 o pr E w (sStore 177 t7 t33_1) fun _ w =>
 o pr E w (sUn .not 4 t29) fun t35_1 w =>
 condP t35_1 (rs pr w t7 177 fun v0_6 =>
 K v0_6 w)
  (o pr E w (sFA 151 a5 0) fun t36_1 w =>
 o pr E w (sLoad 138 t36_1) fun t37_1 w =>
 o pr E w (sLoad 107 t8_1) fun t38_1 w =>
 o pr E w (sBuild 247 [(0, t37_1), (1, t38_1)]) fun t39_1 w =>
 o pr E w (sFA 151 a5 1) fun t40_1 w =>
 o pr E w (sLoad 138 t40_1) fun t41_1 w =>
 o pr E w (sLoad 107 t9_1) fun t42_1 w =>
 o pr E w (sBuild 247 [(0, t41_1), (1, t42_1)]) fun t43_1 w =>
 o pr E w (sBuildSlice 248 2 [(0, t39_1), (1, t43_1)]) fun t44_1 w =>
 o pr E w (sB .len [248] 3 [t44_1]) fun t45_1 w =>
 ∃ (I3 : List Value → World → Prop) (m3 : List Value → World → Nat), I3 [(Value.int IntKind.i64 0)] w ∧
 ∀ (e3 : Nat → Value) w3, I3 [e3 46] w3 → (fun w =>
 o pr E w (sBin .lss 3 (e3 46) t45_1 3) fun t47_1 w =>
 ∃ j4 : List Value → World → Prop, (∀ (e4 : Nat → Value) w, j4 [] w →
 o pr E w (sBinC .add 3 (e3 46) (Value.int IntKind.i64 1) 3) fun t86_1 w =>
 I3 [t86_1] w ∧ m3 [t86_1] w < m3 [e3 46] w3) ∧
 condP t47_1 (o pr E w (sIA 248 t44_1 (e3 46)) fun t48_1 w =>
 o pr E w (sLoad 247 t48_1) fun t49_1 w =>
 o pr E w (sAlloc 247) fun t13_1 w =>
 o pr E w (sStore 247 t13_1 t49_1) fun _ w =>
 o pr E w (sFA 247 t13_1 0) fun t51_1 w =>
 o pr E w (sLoad 138 t51_1) fun t52_1 w =>
 o pr E w (sAssert t52_1 138 201 true) fun t53_1 w =>
 o pr E w (sExt t53_1 0) fun t54_1 w =>
 o pr E w (sExt t53_1 1) fun t55_1 w =>
 condP t55_1 ((fun w =>
 oa pr w (sLoad 171 a1) fun t58_1 =>
 oz pr (sNil t58_1) fun t59_1 =>
 oz pr (sFA 174 t59_1 0) fun t60_1 =>
 oa pr w (sLoad 109 t60_1) fun t61_1 =>
 oz pr (sNil t54_1) fun t63_1 =>
 oz pr (sFA 203 t63_1 0) fun t64_1 =>
 oa pr w (sLoad 3 t64_1) fun t65_1 =>
 oz pr (sFA 177 t7 1) fun t66_1 =>
 oz pr (sIA 175 t66_1 t65_1) fun t67_1 =>
 oa pr w (sLoad 107 t67_1) fun t68_1 =>
 oz pr (sFA 247 t13_1 1) fun t69_1 =>
 oa pr w (sLoad 107 t69_1) fun t70_1 =>
 oz pr (sNil t61_1) fun _ =>
 (o pr E w (sInvoke t61_1 "Meet" [t68_1, t70_1]) fun t73_2 w =>
 oz pr (sExt t73_2 0) fun t74_2 =>
 oz pr (sExt t73_2 1) fun t75_2 =>
 o pr E w (sAlloc 107) fun t16_2 w =>
 o pr E w (sStore 107 t16_2 t74_2) fun _ w =>
 o pr E w (sUn .not 4 t75_2) fun t77_2 w =>
 condP t77_2 (o pr E w (sBuild 177 []) fun t78_2 w =>
 o pr E w (sStore 177 t7 t78_2) fun _ w =>
 rs pr w t7 177 fun v0_7 =>
 K v0_7 w)
  ((fun w =>
 oz pr (sNil t54_1) fun t80_2 =>
 oz pr (sFA 203 t80_2 0) fun t81_2 =>
 oa pr w (sLoad 3 t81_2) fun t82_2 =>
 oa pr w (sLoad 107 t16_2) fun t83_2 =>
 oz pr (sFA 177 t7 1) fun t84_2 =>
 oz pr (sIA 175 t84_2 t82_2) fun t85_2 =>
 o pr E w (sStore 107 t85_2 t83_2) fun _ w =>
 j4 [] w) (dr w))) ∧
 (o pr E w (sAlloc 107) fun t16_3 w =>
 rk pr w (sLoad 107 t69_1) t70_1 ∧
 rk pr w (sLoad 107 t67_1) t68_1 ∧
 rk pr w (sLoad 3 t64_1) t65_1 ∧
 rk pr w (sLoad 109 t60_1) t61_1 ∧
 rk pr w (sLoad 171 a1) t58_1 ∧
 o pr E w (sInvoke t61_1 "Meet" [t68_1, t70_1]) fun t73_3 w =>
 oz pr (sExt t73_3 0) fun t74_3 =>
 oz pr (sExt t73_3 1) fun t75_3 =>
 o pr E w (sStore 107 t16_3 t74_3) fun _ w =>
 o pr E w (sUn .not 4 t75_3) fun t77_3 w =>
 condP t77_3 (o pr E w (sBuild 177 []) fun t78_3 w =>
 o pr E w (sStore 177 t7 t78_3) fun _ w =>
 rs pr w t7 177 fun v0_8 =>
 K v0_8 w)
  ((fun w =>
 oz pr (sNil t54_1) fun t80_3 =>
 oz pr (sFA 203 t80_3 0) fun t81_3 =>
 oa pr w (sLoad 3 t81_3) fun t82_3 =>
 oa pr w (sLoad 107 t16_3) fun t83_3 =>
 oz pr (sFA 177 t7 1) fun t84_3 =>
 oz pr (sIA 175 t84_3 t82_3) fun t85_3 =>
 o pr E w (sStore 107 t85_3 t83_3) fun _ w =>
 j4 [] w) (dr w)))) (dr w))
  (j4 [] w))
  (o pr E w (sLoad 177 t7) fun t87_1 w =>
 o pr E w (sStore 177 t7 t87_1) fun _ w =>
 rs pr w t7 177 fun v0_9 =>
 K v0_9 w)) w3)))) ∧
 (o pr E w (sAlloc 107) fun t8_2 w =>
 rk pr w (sLoad 107 a3) t25 ∧
 rk pr w (sLoad 107 a2) t23 ∧
 rk pr w (sLoad 109 t21) t22 ∧
 rk pr w (sLoad 171 a1) t19 ∧
 (o pr E w (sInvoke t22 "Bounds" [t23, a0, t25]) fun t26_1 w =>
 oz pr (sExt t26_1 0) fun t27_1 =>
 oz pr (sExt t26_1 1) fun t28_1 =>
 oz pr (sExt t26_1 2) fun t29_1 =>
 oz pr (sExt t26_1 3) fun t30_1 =>
 o pr E w (sAlloc 107) fun t9_2 w =>
 o pr E w (sStore 107 t8_2 t27_1) fun _ w =>
 o pr E w (sStore 107 t9_2 t28_1) fun _ w =>
 o pr E w (sUn .not 4 t30_1) fun t32_2 w =>
 condP t32_2 (rs pr w t7 177 fun v0_10 =>
 K v0_10 w)
  (o pr E w (sLoad 177 a4) fun t33_2 w =>
 o pr E w (sStore 177 t7 t33_2) fun _ w =>
 o pr E w (sUn .not 4 t29_1) fun t35_2 w =>
 condP t35_2 (rs pr w t7 177 fun v0_11 =>
 K v0_11 w)
  (o pr E w (sFA 151 a5 0) fun t36_2 w =>
 o pr E w (sLoad 138 t36_2) fun t37_2 w =>
 o pr E w (sLoad 107 t8_2) fun t38_2 w =>
 o pr E w (sBuild 247 [(0, t37_2), (1, t38_2)]) fun t39_2 w =>
 o pr E w (sFA 151 a5 1) fun t40_2 w =>
 o pr E w (sLoad 138 t40_2) fun t41_2 w =>
 o pr E w (sLoad 107 t9_2) fun t42_2 w =>
 o pr E w (sBuild 247 [(0, t41_2), (1, t42_2)]) fun t43_2 w =>
 o pr E w (sBuildSlice 248 2 [(0, t39_2), (1, t43_2)]) fun t44_2 w =>
 o pr E w (sB .len [248] 3 [t44_2]) fun t45_2 w =>
 ∃ (I5 : List Value → World → Prop) (m5 : List Value → World → Nat), I5 [(Value.int IntKind.i64 0)] w ∧
 ∀ (e5 : Nat → Value) w5, I5 [e5 46] w5 → (fun w =>
 o pr E w (sBin .lss 3 (e5 46) t45_2 3) fun t47_2 w =>
 ∃ j6 : List Value → World → Prop, (∀ (e6 : Nat → Value) w, j6 [] w →
 o pr E w (sBinC .add 3 (e5 46) (Value.int IntKind.i64 1) 3) fun t86_2 w =>
 I5 [t86_2] w ∧ m5 [t86_2] w < m5 [e5 46] w5) ∧
 condP t47_2 (o pr E w (sIA 248 t44_2 (e5 46)) fun t48_2 w =>
 o pr E w (sLoad 247 t48_2) fun t49_2 w =>
 o pr E w (sAlloc 247) fun t13_2 w =>
 o pr E w (sStore 247 t13_2 t49_2) fun _ w =>
 o pr E w (sFA 247 t13_2 0) fun t51_2 w =>
 o pr E w (sLoad 138 t51_2) fun t52_2 w =>
 o pr E w (sAssert t52_2 138 201 true) fun t53_2 w =>
 o pr E w (sExt t53_2 0) fun t54_2 w =>
 o pr E w (sExt t53_2 1) fun t55_2 w =>
 condP t55_2 ((fun w =>
 oa pr w (sLoad 171 a1) fun t58_2 =>
 oz pr (sNil t58_2) fun t59_2 =>
 oz pr (sFA 174 t59_2 0) fun t60_2 =>
 oa pr w (sLoad 109 t60_2) fun t61_2 =>
 oz pr (sNil t54_2) fun t63_2 =>
 oz pr (sFA 203 t63_2 0) fun t64_2 =>
 oa pr w (sLoad 3 t64_2) fun t65_2 =>
 oz pr (sFA 177 t7 1) fun t66_2 =>
 oz pr (sIA 175 t66_2 t65_2) fun t67_2 =>
 oa pr w (sLoad 107 t67_2) fun t68_2 =>
 oz pr (sFA 247 t13_2 1) fun t69_2 =>
 oa pr w (sLoad 107 t69_2) fun t70_2 =>
 oz pr (sNil t61_2) fun _ =>
 (o pr E w (sInvoke t61_2 "Meet" [t68_2, t70_2]) fun t73_4 w =>
 oz pr (sExt t73_4 0) fun t74_4 =>
 oz pr (sExt t73_4 1) fun t75_4 =>
 o pr E w (sAlloc 107) fun t16_4 w =>
 o pr E w (sStore 107 t16_4 t74_4) fun _ w =>
 o pr E w (sUn .not 4 t75_4) fun t77_4 w =>
 condP t77_4 (o pr E w (sBuild 177 []) fun t78_4 w =>
 o pr E w (sStore 177 t7 t78_4) fun _ w =>
 rs pr w t7 177 fun v0_12 =>
 K v0_12 w)
  ((fun w =>
 oz pr (sNil t54_2) fun t80_4 =>
 oz pr (sFA 203 t80_4 0) fun t81_4 =>
 oa pr w (sLoad 3 t81_4) fun t82_4 =>
 oa pr w (sLoad 107 t16_4) fun t83_4 =>
 oz pr (sFA 177 t7 1) fun t84_4 =>
 oz pr (sIA 175 t84_4 t82_4) fun t85_4 =>
 o pr E w (sStore 107 t85_4 t83_4) fun _ w =>
 j6 [] w) (dr w))) ∧
 (o pr E w (sAlloc 107) fun t16_5 w =>
 rk pr w (sLoad 107 t69_2) t70_2 ∧
 rk pr w (sLoad 107 t67_2) t68_2 ∧
 rk pr w (sLoad 3 t64_2) t65_2 ∧
 rk pr w (sLoad 109 t60_2) t61_2 ∧
 rk pr w (sLoad 171 a1) t58_2 ∧
 o pr E w (sInvoke t61_2 "Meet" [t68_2, t70_2]) fun t73_5 w =>
 oz pr (sExt t73_5 0) fun t74_5 =>
 oz pr (sExt t73_5 1) fun t75_5 =>
 o pr E w (sStore 107 t16_5 t74_5) fun _ w =>
 o pr E w (sUn .not 4 t75_5) fun t77_5 w =>
 condP t77_5 (o pr E w (sBuild 177 []) fun t78_5 w =>
 o pr E w (sStore 177 t7 t78_5) fun _ w =>
 rs pr w t7 177 fun v0_13 =>
 K v0_13 w)
  ((fun w =>
 oz pr (sNil t54_2) fun t80_5 =>
 oz pr (sFA 203 t80_5 0) fun t81_5 =>
 oa pr w (sLoad 3 t81_5) fun t82_5 =>
 oa pr w (sLoad 107 t16_5) fun t83_5 =>
 oz pr (sFA 177 t7 1) fun t84_5 =>
 oz pr (sIA 175 t84_5 t82_5) fun t85_5 =>
 o pr E w (sStore 107 t85_5 t83_5) fun _ w =>
 j6 [] w) (dr w)))) (dr w))
  (j6 [] w))
  (o pr E w (sLoad 177 t7) fun t87_2 w =>
 o pr E w (sStore 177 t7 t87_2) fun _ w =>
 rs pr w t7 177 fun v0_14 =>
 K v0_14 w)) w5))) ∧
 (o pr E w (sAlloc 107) fun t9_3 w =>
 rk pr w (sLoad 107 a3) t25 ∧
 rk pr w (sLoad 107 a2) t23 ∧
 rk pr w (sLoad 109 t21) t22 ∧
 rk pr w (sLoad 171 a1) t19 ∧
 o pr E w (sInvoke t22 "Bounds" [t23, a0, t25]) fun t26_2 w =>
 oz pr (sExt t26_2 0) fun t27_2 =>
 oz pr (sExt t26_2 1) fun t28_2 =>
 oz pr (sExt t26_2 2) fun t29_2 =>
 oz pr (sExt t26_2 3) fun t30_2 =>
 o pr E w (sStore 107 t8_2 t27_2) fun _ w =>
 o pr E w (sStore 107 t9_3 t28_2) fun _ w =>
 o pr E w (sUn .not 4 t30_2) fun t32_3 w =>
 condP t32_3 (rs pr w t7 177 fun v0_15 =>
 K v0_15 w)
  (o pr E w (sLoad 177 a4) fun t33_3 w =>
 o pr E w (sStore 177 t7 t33_3) fun _ w =>
 o pr E w (sUn .not 4 t29_2) fun t35_3 w =>
 condP t35_3 (rs pr w t7 177 fun v0_16 =>
 K v0_16 w)
  (o pr E w (sFA 151 a5 0) fun t36_3 w =>
 o pr E w (sLoad 138 t36_3) fun t37_3 w =>
 o pr E w (sLoad 107 t8_2) fun t38_3 w =>
 o pr E w (sBuild 247 [(0, t37_3), (1, t38_3)]) fun t39_3 w =>
 o pr E w (sFA 151 a5 1) fun t40_3 w =>
 o pr E w (sLoad 138 t40_3) fun t41_3 w =>
 o pr E w (sLoad 107 t9_3) fun t42_3 w =>
 o pr E w (sBuild 247 [(0, t41_3), (1, t42_3)]) fun t43_3 w =>
 o pr E w (sBuildSlice 248 2 [(0, t39_3), (1, t43_3)]) fun t44_3 w =>
 o pr E w (sB .len [248] 3 [t44_3]) fun t45_3 w =>
 ∃ (I7 : List Value → World → Prop) (m7 : List Value → World → Nat), I7 [(Value.int IntKind.i64 0)] w ∧
 ∀ (e7 : Nat → Value) w7, I7 [e7 46] w7 → (fun w =>
 o pr E w (sBin .lss 3 (e7 46) t45_3 3) fun t47_3 w =>
 ∃ j8 : List Value → World → Prop, (∀ (e8 : Nat → Value) w, j8 [] w →
 o pr E w (sBinC .add 3 (e7 46) (Value.int IntKind.i64 1) 3) fun t86_3 w =>
 I7 [t86_3] w ∧ m7 [t86_3] w < m7 [e7 46] w7) ∧
 condP t47_3 (o pr E w (sIA 248 t44_3 (e7 46)) fun t48_3 w =>
 o pr E w (sLoad 247 t48_3) fun t49_3 w =>
 o pr E w (sAlloc 247) fun t13_3 w =>
 o pr E w (sStore 247 t13_3 t49_3) fun _ w =>
 o pr E w (sFA 247 t13_3 0) fun t51_3 w =>
 o pr E w (sLoad 138 t51_3) fun t52_3 w =>
 o pr E w (sAssert t52_3 138 201 true) fun t53_3 w =>
 o pr E w (sExt t53_3 0) fun t54_3 w =>
 o pr E w (sExt t53_3 1) fun t55_3 w =>
 condP t55_3 ((fun w =>
 oa pr w (sLoad 171 a1) fun t58_3 =>
 oz pr (sNil t58_3) fun t59_3 =>
 oz pr (sFA 174 t59_3 0) fun t60_3 =>
 oa pr w (sLoad 109 t60_3) fun t61_3 =>
 oz pr (sNil t54_3) fun t63_3 =>
 oz pr (sFA 203 t63_3 0) fun t64_3 =>
 oa pr w (sLoad 3 t64_3) fun t65_3 =>
 oz pr (sFA 177 t7 1) fun t66_3 =>
 oz pr (sIA 175 t66_3 t65_3) fun t67_3 =>
 oa pr w (sLoad 107 t67_3) fun t68_3 =>
 oz pr (sFA 247 t13_3 1) fun t69_3 =>
 oa pr w (sLoad 107 t69_3) fun t70_3 =>
 oz pr (sNil t61_3) fun _ =>
 (o pr E w (sInvoke t61_3 "Meet" [t68_3, t70_3]) fun t73_6 w =>
 oz pr (sExt t73_6 0) fun t74_6 =>
 oz pr (sExt t73_6 1) fun t75_6 =>
 o pr E w (sAlloc 107) fun t16_6 w =>
 o pr E w (sStore 107 t16_6 t74_6) fun _ w =>
 o pr E w (sUn .not 4 t75_6) fun t77_6 w =>
 condP t77_6 (o pr E w (sBuild 177 []) fun t78_6 w =>
 o pr E w (sStore 177 t7 t78_6) fun _ w =>
 rs pr w t7 177 fun v0_17 =>
 K v0_17 w)
  ((fun w =>
 oz pr (sNil t54_3) fun t80_6 =>
 oz pr (sFA 203 t80_6 0) fun t81_6 =>
 oa pr w (sLoad 3 t81_6) fun t82_6 =>
 oa pr w (sLoad 107 t16_6) fun t83_6 =>
 oz pr (sFA 177 t7 1) fun t84_6 =>
 oz pr (sIA 175 t84_6 t82_6) fun t85_6 =>
 o pr E w (sStore 107 t85_6 t83_6) fun _ w =>
 j8 [] w) (dr w))) ∧
 (o pr E w (sAlloc 107) fun t16_7 w =>
 rk pr w (sLoad 107 t69_3) t70_3 ∧
 rk pr w (sLoad 107 t67_3) t68_3 ∧
 rk pr w (sLoad 3 t64_3) t65_3 ∧
 rk pr w (sLoad 109 t60_3) t61_3 ∧
 rk pr w (sLoad 171 a1) t58_3 ∧
 o pr E w (sInvoke t61_3 "Meet" [t68_3, t70_3]) fun t73_7 w =>
 oz pr (sExt t73_7 0) fun t74_7 =>
 oz pr (sExt t73_7 1) fun t75_7 =>
 o pr E w (sStore 107 t16_7 t74_7) fun _ w =>
 o pr E w (sUn .not 4 t75_7) fun t77_7 w =>
 condP t77_7 (o pr E w (sBuild 177 []) fun t78_7 w =>
 o pr E w (sStore 177 t7 t78_7) fun _ w =>
 rs pr w t7 177 fun v0_18 =>
 K v0_18 w)
  ((fun w =>
 oz pr (sNil t54_3) fun t80_7 =>
 oz pr (sFA 203 t80_7 0) fun t81_7 =>
 oa pr w (sLoad 3 t81_7) fun t82_7 =>
 oa pr w (sLoad 107 t16_7) fun t83_7 =>
 oz pr (sFA 177 t7 1) fun t84_7 =>
 oz pr (sIA 175 t84_7 t82_7) fun t85_7 =>
 o pr E w (sStore 107 t85_7 t83_7) fun _ w =>
 j8 [] w) (dr w)))) (dr w))
  (j8 [] w))
  (o pr E w (sLoad 177 t7) fun t87_3 w =>
 o pr E w (sStore 177 t7 t87_3) fun _ w =>
 rs pr w t7 177 fun v0_19 =>
 K v0_19 w)) w7)))) ∧
 (o pr E w (sAlloc 107) fun t9_4 w =>
 rk pr w (sLoad 107 a3) t25 ∧
 rk pr w (sLoad 107 a2) t23 ∧
 rk pr w (sLoad 109 t21) t22 ∧
 rk pr w (sLoad 171 a1) t19 ∧
 (o pr E w (sInvoke t22 "Bounds" [t23, a0, t25]) fun t26_3 w =>
 oz pr (sExt t26_3 0) fun t27_3 =>
 oz pr (sExt t26_3 1) fun t28_3 =>
 oz pr (sExt t26_3 2) fun t29_3 =>
 oz pr (sExt t26_3 3) fun t30_3 =>
 o pr E w (sAlloc 107) fun t8_3 w =>
 o pr E w (sStore 107 t8_3 t27_3) fun _ w =>
 o pr E w (sStore 107 t9_4 t28_3) fun _ w =>
 o pr E w (sUn .not 4 t30_3) fun t32_4 w =>
 condP t32_4 (rs pr w t7 177 fun v0_20 =>
 K v0_20 w)
  (o pr E w (sLoad 177 a4) fun t33_4 w =>
 o pr E w (sStore 177 t7 t33_4) fun _ w =>
 o pr E w (sUn .not 4 t29_3) fun t35_4 w =>
 condP t35_4 (rs pr w t7 177 fun v0_21 =>
 K v0_21 w)
  (o pr E w (sFA 151 a5 0) fun t36_4 w =>
 o pr E w (sLoad 138 t36_4) fun t37_4 w =>
 o pr E w (sLoad 107 t8_3) fun t38_4 w =>
 o pr E w (sBuild 247 [(0, t37_4), (1, t38_4)]) fun t39_4 w =>
 o pr E w (sFA 151 a5 1) fun t40_4 w =>
 o pr E w (sLoad 138 t40_4) fun t41_4 w =>
 o pr E w (sLoad 107 t9_4) fun t42_4 w =>
 o pr E w (sBuild 247 [(0, t41_4), (1, t42_4)]) fun t43_4 w =>
 o pr E w (sBuildSlice 248 2 [(0, t39_4), (1, t43_4)]) fun t44_4 w =>
 o pr E w (sB .len [248] 3 [t44_4]) fun t45_4 w =>
 ∃ (I9 : List Value → World → Prop) (m9 : List Value → World → Nat), I9 [(Value.int IntKind.i64 0)] w ∧
 ∀ (e9 : Nat → Value) w9, I9 [e9 46] w9 → (fun w =>
 o pr E w (sBin .lss 3 (e9 46) t45_4 3) fun t47_4 w =>
 ∃ j10 : List Value → World → Prop, (∀ (e10 : Nat → Value) w, j10 [] w →
 o pr E w (sBinC .add 3 (e9 46) (Value.int IntKind.i64 1) 3) fun t86_4 w =>
 I9 [t86_4] w ∧ m9 [t86_4] w < m9 [e9 46] w9) ∧
 condP t47_4 (o pr E w (sIA 248 t44_4 (e9 46)) fun t48_4 w =>
 o pr E w (sLoad 247 t48_4) fun t49_4 w =>
 o pr E w (sAlloc 247) fun t13_4 w =>
 o pr E w (sStore 247 t13_4 t49_4) fun _ w =>
 o pr E w (sFA 247 t13_4 0) fun t51_4 w =>
 o pr E w (sLoad 138 t51_4) fun t52_4 w =>
 o pr E w (sAssert t52_4 138 201 true) fun t53_4 w =>
 o pr E w (sExt t53_4 0) fun t54_4 w =>
 o pr E w (sExt t53_4 1) fun t55_4 w =>
 condP t55_4 ((fun w =>
 oa pr w (sLoad 171 a1) fun t58_4 =>
 oz pr (sNil t58_4) fun t59_4 =>
 oz pr (sFA 174 t59_4 0) fun t60_4 =>
 oa pr w (sLoad 109 t60_4) fun t61_4 =>
 oz pr (sNil t54_4) fun t63_4 =>
 oz pr (sFA 203 t63_4 0) fun t64_4 =>
 oa pr w (sLoad 3 t64_4) fun t65_4 =>
 oz pr (sFA 177 t7 1) fun t66_4 =>
 oz pr (sIA 175 t66_4 t65_4) fun t67_4 =>
 oa pr w (sLoad 107 t67_4) fun t68_4 =>
 oz pr (sFA 247 t13_4 1) fun t69_4 =>
 oa pr w (sLoad 107 t69_4) fun t70_4 =>
 oz pr (sNil t61_4) fun _ =>
 (o pr E w (sInvoke t61_4 "Meet" [t68_4, t70_4]) fun t73_8 w =>
 oz pr (sExt t73_8 0) fun t74_8 =>
 oz pr (sExt t73_8 1) fun t75_8 =>
 o pr E w (sAlloc 107) fun t16_8 w =>
 o pr E w (sStore 107 t16_8 t74_8) fun _ w =>
 o pr E w (sUn .not 4 t75_8) fun t77_8 w =>
 condP t77_8 (o pr E w (sBuild 177 []) fun t78_8 w =>
 o pr E w (sStore 177 t7 t78_8) fun _ w =>
 rs pr w t7 177 fun v0_22 =>
 K v0_22 w)
  ((fun w =>
 oz pr (sNil t54_4) fun t80_8 =>
 oz pr (sFA 203 t80_8 0) fun t81_8 =>
 oa pr w (sLoad 3 t81_8) fun t82_8 =>
 oa pr w (sLoad 107 t16_8) fun t83_8 =>
 oz pr (sFA 177 t7 1) fun t84_8 =>
 oz pr (sIA 175 t84_8 t82_8) fun t85_8 =>
 o pr E w (sStore 107 t85_8 t83_8) fun _ w =>
 j10 [] w) (dr w))) ∧
 (o pr E w (sAlloc 107) fun t16_9 w =>
 rk pr w (sLoad 107 t69_4) t70_4 ∧
 rk pr w (sLoad 107 t67_4) t68_4 ∧
 rk pr w (sLoad 3 t64_4) t65_4 ∧
 rk pr w (sLoad 109 t60_4) t61_4 ∧
 rk pr w (sLoad 171 a1) t58_4 ∧
 o pr E w (sInvoke t61_4 "Meet" [t68_4, t70_4]) fun t73_9 w =>
 oz pr (sExt t73_9 0) fun t74_9 =>
 oz pr (sExt t73_9 1) fun t75_9 =>
 o pr E w (sStore 107 t16_9 t74_9) fun _ w =>
 o pr E w (sUn .not 4 t75_9) fun t77_9 w =>
 condP t77_9 (o pr E w (sBuild 177 []) fun t78_9 w =>
 o pr E w (sStore 177 t7 t78_9) fun _ w =>
 rs pr w t7 177 fun v0_23 =>
 K v0_23 w)
  ((fun w =>
 oz pr (sNil t54_4) fun t80_9 =>
 oz pr (sFA 203 t80_9 0) fun t81_9 =>
 oa pr w (sLoad 3 t81_9) fun t82_9 =>
 oa pr w (sLoad 107 t16_9) fun t83_9 =>
 oz pr (sFA 177 t7 1) fun t84_9 =>
 oz pr (sIA 175 t84_9 t82_9) fun t85_9 =>
 o pr E w (sStore 107 t85_9 t83_9) fun _ w =>
 j10 [] w) (dr w)))) (dr w))
  (j10 [] w))
  (o pr E w (sLoad 177 t7) fun t87_4 w =>
 o pr E w (sStore 177 t7 t87_4) fun _ w =>
 rs pr w t7 177 fun v0_24 =>
 K v0_24 w)) w9))) ∧
 (o pr E w (sAlloc 107) fun t8_4 w =>
 rk pr w (sLoad 107 a3) t25 ∧
 rk pr w (sLoad 107 a2) t23 ∧
 rk pr w (sLoad 109 t21) t22 ∧
 rk pr w (sLoad 171 a1) t19 ∧
 o pr E w (sInvoke t22 "Bounds" [t23, a0, t25]) fun t26_4 w =>
 oz pr (sExt t26_4 0) fun t27_4 =>
 oz pr (sExt t26_4 1) fun t28_4 =>
 oz pr (sExt t26_4 2) fun t29_4 =>
 oz pr (sExt t26_4 3) fun t30_4 =>
 o pr E w (sStore 107 t8_4 t27_4) fun _ w =>
 o pr E w (sStore 107 t9_4 t28_4) fun _ w =>
 o pr E w (sUn .not 4 t30_4) fun t32_5 w =>
 condP t32_5 (rs pr w t7 177 fun v0_25 =>
 K v0_25 w)
  (o pr E w (sLoad 177 a4) fun t33_5 w =>
 o pr E w (sStore 177 t7 t33_5) fun _ w =>
 o pr E w (sUn .not 4 t29_4) fun t35_5 w =>
 condP t35_5 (rs pr w t7 177 fun v0_26 =>
 K v0_26 w)
  (o pr E w (sFA 151 a5 0) fun t36_5 w =>
 o pr E w (sLoad 138 t36_5) fun t37_5 w =>
 o pr E w (sLoad 107 t8_4) fun t38_5 w =>
 o pr E w (sBuild 247 [(0, t37_5), (1, t38_5)]) fun t39_5 w =>
 o pr E w (sFA 151 a5 1) fun t40_5 w =>
 o pr E w (sLoad 138 t40_5) fun t41_5 w =>
 o pr E w (sLoad 107 t9_4) fun t42_5 w =>
 o pr E w (sBuild 247 [(0, t41_5), (1, t42_5)]) fun t43_5 w =>
 o pr E w (sBuildSlice 248 2 [(0, t39_5), (1, t43_5)]) fun t44_5 w =>
 o pr E w (sB .len [248] 3 [t44_5]) fun t45_5 w =>
 ∃ (I11 : List Value → World → Prop) (m11 : List Value → World → Nat), I11 [(Value.int IntKind.i64 0)] w ∧
 ∀ (e11 : Nat → Value) w11, I11 [e11 46] w11 → (fun w =>
 o pr E w (sBin .lss 3 (e11 46) t45_5 3) fun t47_5 w =>
 ∃ j12 : List Value → World → Prop, (∀ (e12 : Nat → Value) w, j12 [] w →
 o pr E w (sBinC .add 3 (e11 46) (Value.int IntKind.i64 1) 3) fun t86_5 w =>
 I11 [t86_5] w ∧ m11 [t86_5] w < m11 [e11 46] w11) ∧
 condP t47_5 (o pr E w (sIA 248 t44_5 (e11 46)) fun t48_5 w =>
 o pr E w (sLoad 247 t48_5) fun t49_5 w =>
 o pr E w (sAlloc 247) fun t13_5 w =>
 o pr E w (sStore 247 t13_5 t49_5) fun _ w =>
 o pr E w (sFA 247 t13_5 0) fun t51_5 w =>
 o pr E w (sLoad 138 t51_5) fun t52_5 w =>
 o pr E w (sAssert t52_5 138 201 true) fun t53_5 w =>
 o pr E w (sExt t53_5 0) fun t54_5 w =>
 o pr E w (sExt t53_5 1) fun t55_5 w =>
 condP t55_5 ((fun w =>
 oa pr w (sLoad 171 a1) fun t58_5 =>
 oz pr (sNil t58_5) fun t59_5 =>
 oz pr (sFA 174 t59_5 0) fun t60_5 =>
 oa pr w (sLoad 109 t60_5) fun t61_5 =>
 oz pr (sNil t54_5) fun t63_5 =>
 oz pr (sFA 203 t63_5 0) fun t64_5 =>
 oa pr w (sLoad 3 t64_5) fun t65_5 =>
 oz pr (sFA 177 t7 1) fun t66_5 =>
 oz pr (sIA 175 t66_5 t65_5) fun t67_5 =>
 oa pr w (sLoad 107 t67_5) fun t68_5 =>
 oz pr (sFA 247 t13_5 1) fun t69_5 =>
 oa pr w (sLoad 107 t69_5) fun t70_5 =>
 oz pr (sNil t61_5) fun _ =>
 (o pr E w (sInvoke t61_5 "Meet" [t68_5, t70_5]) fun t73_10 w =>
 oz pr (sExt t73_10 0) fun t74_10 =>
 oz pr (sExt t73_10 1) fun t75_10 =>
 o pr E w (sAlloc 107) fun t16_10 w =>
 o pr E w (sStore 107 t16_10 t74_10) fun _ w =>
 o pr E w (sUn .not 4 t75_10) fun t77_10 w =>
 condP t77_10 (o pr E w (sBuild 177 []) fun t78_10 w =>
 o pr E w (sStore 177 t7 t78_10) fun _ w =>
 rs pr w t7 177 fun v0_27 =>
 K v0_27 w)
  ((fun w =>
 oz pr (sNil t54_5) fun t80_10 =>
 oz pr (sFA 203 t80_10 0) fun t81_10 =>
 oa pr w (sLoad 3 t81_10) fun t82_10 =>
 oa pr w (sLoad 107 t16_10) fun t83_10 =>
 oz pr (sFA 177 t7 1) fun t84_10 =>
 oz pr (sIA 175 t84_10 t82_10) fun t85_10 =>
 o pr E w (sStore 107 t85_10 t83_10) fun _ w =>
 j12 [] w) (dr w))) ∧
 (o pr E w (sAlloc 107) fun t16_11 w =>
 rk pr w (sLoad 107 t69_5) t70_5 ∧
 rk pr w (sLoad 107 t67_5) t68_5 ∧
 rk pr w (sLoad 3 t64_5) t65_5 ∧
 rk pr w (sLoad 109 t60_5) t61_5 ∧
 rk pr w (sLoad 171 a1) t58_5 ∧
 o pr E w (sInvoke t61_5 "Meet" [t68_5, t70_5]) fun t73_11 w =>
 oz pr (sExt t73_11 0) fun t74_11 =>
 oz pr (sExt t73_11 1) fun t75_11 =>
 o pr E w (sStore 107 t16_11 t74_11) fun _ w =>
 o pr E w (sUn .not 4 t75_11) fun t77_11 w =>
 condP t77_11 (o pr E w (sBuild 177 []) fun t78_11 w =>
 o pr E w (sStore 177 t7 t78_11) fun _ w =>
 rs pr w t7 177 fun v0_28 =>
 K v0_28 w)
  ((fun w =>
 oz pr (sNil t54_5) fun t80_11 =>
 oz pr (sFA 203 t80_11 0) fun t81_11 =>
 oa pr w (sLoad 3 t81_11) fun t82_11 =>
 oa pr w (sLoad 107 t16_11) fun t83_11 =>
 oz pr (sFA 177 t7 1) fun t84_11 =>
 oz pr (sIA 175 t84_11 t82_11) fun t85_11 =>
 o pr E w (sStore 107 t85_11 t83_11) fun _ w =>
 j12 [] w) (dr w)))) (dr w))
  (j12 [] w))
  (o pr E w (sLoad 177 t7) fun t87_5 w =>
 o pr E w (sStore 177 t7 t87_5) fun _ w =>
 rs pr w t7 177 fun v0_29 =>
 K v0_29 w)) w11))))) (dr w)
def lv_sv_split_1 : Lives := [(1, [0, 1, 2, 3, 4, 5, 7]), (2, [1, 4, 5, 7, 8, 9, 10, 11]), (3, [1, 4, 5, 7, 8, 9, 10]), (4, [1, 5, 7, 8, 9, 10]), (5, [1, 5, 7, 8, 9]), (6, [1, 7, 44, 45, 46]), (7, [1, 7, 44, 45, 46, 47]), (8, [1, 7, 13, 44, 45, 46]), (9, [1, 7, 13, 14, 15, 44, 45, 46]), (10, [1, 7, 13, 14, 44, 45, 46, 56]), (11, [1, 7, 14, 16, 17, 44, 45, 46]), (12, [1, 7, 14, 16, 44, 45, 46, 77]), (13, [1, 7, 14, 16, 44, 45, 46]), (14, [1, 7, 44, 45, 46]), (15, [7])]
theorem sh_sv_split_1_ok (a0 a1 a2 a3 a4 a5 : Value) (w : World) (R : Ending → World → Prop)
 (h : sh_sv_split_1 (fun v w => R (.returned v) w) (fun c w => R (.panicked c) w) a0 a1 a2 a3 a4 a5 w) : Calls pr n_sv_split_1 #[a0, a1, a2, a3, a4, a5] w R :=
 calls_of_W (A := lv_sv_split_1) enters mixed Go.Proofs.Tryz.func81 (by kernel_rfl) (by kernel_rfl) (by kernel_rfl)
  (Eq.mp (by kernel_rfl) h)
def sh_sv_round (K : Value → World → Prop) (E : PanicK) (a0 a1 a2 a3 : Value) (w : World) : Prop :=
 o pr E w (sBox 177 a2) fun t6 w =>
 o pr E w (sBox 177 a3) fun t7 w =>
 o pr E w (sAlloc 177) fun t8 w =>
 o pr E w (sNil a0) fun t13 w =>
 o pr E w (sFA 174 t13 4) fun t14 w =>
 o pr E w (sLoad 3 t14) fun t15 w =>
 o pr E w (sBinC .add 3 t15 (Value.int IntKind.i64 1) 3) fun t16 w =>
 o pr E w (sNil a0) fun t17 w =>
 o pr E w (sFA 174 t17 4) fun t18 w =>
 o pr E w (sStore 3 t18 t16) fun _ w =>
 (fun w =>
 oz pr (sNil a1) fun t22 =>
 oz pr (sFA 159 t22 1) fun t23 =>
 oa pr w (sLoad 151 t23) fun t24 =>
 oa pr w (sLoad 177 t7) fun t25 =>
 (cl pr E w n_sv_split #[a0, t24, t25] fun t26 w =>
 oz pr (sExt t26 0) fun t27 =>
 oz pr (sExt t26 1) fun t28 =>
 (o pr E w (sAlloc 177) fun t9 w =>
 o pr E w (sAlloc 177) fun t10 w =>
 o pr E w (sStore 177 t9 t27) fun _ w =>
 o pr E w (sStore 177 t10 t28) fun _ w =>
 (fun w =>
 oa pr w (sLoad 177 t6) fun t30 =>
 oz pr (sNil a1) fun t33 =>
 oz pr (sFA 159 t33 2) fun t34 =>
 oa pr w (sLoad 83 t34) fun t35 =>
 oa pr w (sLoad 177 t9) fun t36 =>
 (cl pr E w n_sv_list #[a0, t35, t36] fun t37 w =>
 rk pr w (sLoad 177 t6) t30 ∧
 (cl pr E w n_sv_both #[a0, t30, t37] fun t38 w =>
 o pr E w (sAlloc 177) fun t11 w =>
 o pr E w (sStore 177 t11 t38) fun _ w =>
 o pr E w (sNil a0) fun t40 w =>
 o pr E w (sFA 174 t40 4) fun t41 w =>
 o pr E w (sLoad 3 t41) fun t42 w =>
 o pr E w (sBinC .sub 3 t42 (Value.int IntKind.i64 1) 3) fun t43 w =>
 o pr E w (sNil a0) fun t44 w =>
 o pr E w (sFA 174 t44 4) fun t45 w =>
 o pr E w (sStore 3 t45 t43) fun _ w =>
 o pr E w (sLoad 177 t11) fun t46 w =>
 o pr E w (sStore 177 t8 t46) fun _ w =>
 rs pr w t8 177 fun v0_0 =>
 K v0_0 w) ∧
 (o pr E w (sAlloc 177) fun t11_1 w =>
 rk pr w (sLoad 177 t6) t30 ∧
 cl pr E w n_sv_both #[a0, t30, t37] fun t38_1 w =>
 o pr E w (sStore 177 t11_1 t38_1) fun _ w =>
 o pr E w (sNil a0) fun t40_1 w =>
 o pr E w (sFA 174 t40_1 4) fun t41_1 w =>
 o pr E w (sLoad 3 t41_1) fun t42_1 w =>
 o pr E w (sBinC .sub 3 t42_1 (Value.int IntKind.i64 1) 3) fun t43_1 w =>
 o pr E w (sNil a0) fun t44_1 w =>
 o pr E w (sFA 174 t44_1 4) fun t45_1 w =>
 o pr E w (sStore 3 t45_1 t43_1) fun _ w =>
 o pr E w (sLoad 177 t11_1) fun t46_1 w =>
 o pr E w (sStore 177 t8 t46_1) fun _ w =>
 rs pr w t8 177 fun v0_1 =>
 K v0_1 w)) ∧
 (o pr E w (sAlloc 177) fun t11_2 w =>
 rk pr w (sLoad 177 t9) t36 ∧
 rk pr w (sLoad 83 t34) t35 ∧
 rk pr w (sLoad 177 t6) t30 ∧
 cl pr E w n_sv_list #[a0, t35, t36] fun t37_1 w =>
 rk pr w (sLoad 177 t6) t30 ∧
 cl pr E w n_sv_both #[a0, t30, t37_1] fun t38_2 w =>
 o pr E w (sStore 177 t11_2 t38_2) fun _ w =>
 o pr E w (sNil a0) fun t40_2 w =>
 o pr E w (sFA 174 t40_2 4) fun t41_2 w =>
 o pr E w (sLoad 3 t41_2) fun t42_2 w =>
 o pr E w (sBinC .sub 3 t42_2 (Value.int IntKind.i64 1) 3) fun t43_2 w =>
 o pr E w (sNil a0) fun t44_2 w =>
 o pr E w (sFA 174 t44_2 4) fun t45_2 w =>
 o pr E w (sStore 3 t45_2 t43_2) fun _ w =>
 o pr E w (sLoad 177 t11_2) fun t46_2 w =>
 o pr E w (sStore 177 t8 t46_2) fun _ w =>
 rs pr w t8 177 fun v0_2 =>
 K v0_2 w)) (dr w)) ∧
 (o pr E w (sAlloc 177) fun t10_1 w =>
 o pr E w (sAlloc 177) fun t9_1 w =>
 o pr E w (sStore 177 t9_1 t27) fun _ w =>
 o pr E w (sStore 177 t10_1 t28) fun _ w =>
 (fun w =>
 oa pr w (sLoad 177 t6) fun t30_1 =>
 oz pr (sNil a1) fun t33_1 =>
 oz pr (sFA 159 t33_1 2) fun t34_1 =>
 oa pr w (sLoad 83 t34_1) fun t35_1 =>
 oa pr w (sLoad 177 t9_1) fun t36_1 =>
 (cl pr E w n_sv_list #[a0, t35_1, t36_1] fun t37_2 w =>
 rk pr w (sLoad 177 t6) t30_1 ∧
 (cl pr E w n_sv_both #[a0, t30_1, t37_2] fun t38_3 w =>
 o pr E w (sAlloc 177) fun t11_3 w =>
 o pr E w (sStore 177 t11_3 t38_3) fun _ w =>
 o pr E w (sNil a0) fun t40_3 w =>
 o pr E w (sFA 174 t40_3 4) fun t41_3 w =>
 o pr E w (sLoad 3 t41_3) fun t42_3 w =>
 o pr E w (sBinC .sub 3 t42_3 (Value.int IntKind.i64 1) 3) fun t43_3 w =>
 o pr E w (sNil a0) fun t44_3 w =>
 o pr E w (sFA 174 t44_3 4) fun t45_3 w =>
 o pr E w (sStore 3 t45_3 t43_3) fun _ w =>
 o pr E w (sLoad 177 t11_3) fun t46_3 w =>
 o pr E w (sStore 177 t8 t46_3) fun _ w =>
 rs pr w t8 177 fun v0_3 =>
 K v0_3 w) ∧
 (o pr E w (sAlloc 177) fun t11_4 w =>
 rk pr w (sLoad 177 t6) t30_1 ∧
 cl pr E w n_sv_both #[a0, t30_1, t37_2] fun t38_4 w =>
 o pr E w (sStore 177 t11_4 t38_4) fun _ w =>
 o pr E w (sNil a0) fun t40_4 w =>
 o pr E w (sFA 174 t40_4 4) fun t41_4 w =>
 o pr E w (sLoad 3 t41_4) fun t42_4 w =>
 o pr E w (sBinC .sub 3 t42_4 (Value.int IntKind.i64 1) 3) fun t43_4 w =>
 o pr E w (sNil a0) fun t44_4 w =>
 o pr E w (sFA 174 t44_4 4) fun t45_4 w =>
 o pr E w (sStore 3 t45_4 t43_4) fun _ w =>
 o pr E w (sLoad 177 t11_4) fun t46_4 w =>
 o pr E w (sStore 177 t8 t46_4) fun _ w =>
 rs pr w t8 177 fun v0_4 =>
 K v0_4 w)) ∧
 (o pr E w (sAlloc 177) fun t11_5 w =>
 rk pr w (sLoad 177 t9_1) t36_1 ∧
 rk pr w (sLoad 83 t34_1) t35_1 ∧
 rk pr w (sLoad 177 t6) t30_1 ∧
 cl pr E w n_sv_list #[a0, t35_1, t36_1] fun t37_3 w =>
 rk pr w (sLoad 177 t6) t30_1 ∧
 cl pr E w n_sv_both #[a0, t30_1, t37_3] fun t38_5 w =>
 o pr E w (sStore 177 t11_5 t38_5) fun _ w =>
 o pr E w (sNil a0) fun t40_5 w =>
 o pr E w (sFA 174 t40_5 4) fun t41_5 w =>
 o pr E w (sLoad 3 t41_5) fun t42_5 w =>
 o pr E w (sBinC .sub 3 t42_5 (Value.int IntKind.i64 1) 3) fun t43_5 w =>
 o pr E w (sNil a0) fun t44_5 w =>
 o pr E w (sFA 174 t44_5 4) fun t45_5 w =>
 o pr E w (sStore 3 t45_5 t43_5) fun _ w =>
 o pr E w (sLoad 177 t11_5) fun t46_5 w =>
 o pr E w (sStore 177 t8 t46_5) fun _ w =>
 rs pr w t8 177 fun v0_5 =>
 K v0_5 w)) (dr w))) ∧
 (o pr E w (sAlloc 177) fun t9_2 w =>
 rk pr w (sLoad 177 t7) t25 ∧
 rk pr w (sLoad 151 t23) t24 ∧
 (cl pr E w n_sv_split #[a0, t24, t25] fun t26_1 w =>
 oz pr (sExt t26_1 0) fun t27_1 =>
 oz pr (sExt t26_1 1) fun t28_1 =>
 o pr E w (sAlloc 177) fun t10_2 w =>
 o pr E w (sStore 177 t9_2 t27_1) fun _ w =>
 o pr E w (sStore 177 t10_2 t28_1) fun _ w =>
 (fun w =>
 oa pr w (sLoad 177 t6) fun t30_2 =>
 oz pr (sNil a1) fun t33_2 =>
 oz pr (sFA 159 t33_2 2) fun t34_2 =>
 oa pr w (sLoad 83 t34_2) fun t35_2 =>
 oa pr w (sLoad 177 t9_2) fun t36_2 =>
 (cl pr E w n_sv_list #[a0, t35_2, t36_2] fun t37_4 w =>
 rk pr w (sLoad 177 t6) t30_2 ∧
 (cl pr E w n_sv_both #[a0, t30_2, t37_4] fun t38_6 w =>
 o pr E w (sAlloc 177) fun t11_6 w =>
 o pr E w (sStore 177 t11_6 t38_6) fun _ w =>
 o pr E w (sNil a0) fun t40_6 w =>
 o pr E w (sFA 174 t40_6 4) fun t41_6 w =>
 o pr E w (sLoad 3 t41_6) fun t42_6 w =>
 o pr E w (sBinC .sub 3 t42_6 (Value.int IntKind.i64 1) 3) fun t43_6 w =>
 o pr E w (sNil a0) fun t44_6 w =>
 o pr E w (sFA 174 t44_6 4) fun t45_6 w =>
 o pr E w (sStore 3 t45_6 t43_6) fun _ w =>
 o pr E w (sLoad 177 t11_6) fun t46_6 w =>
 o pr E w (sStore 177 t8 t46_6) fun _ w =>
 rs pr w t8 177 fun v0_6 =>
 K v0_6 w) ∧
 (o pr E w (sAlloc 177) fun t11_7 w =>
 rk pr w (sLoad 177 t6) t30_2 ∧
 cl pr E w n_sv_both #[a0, t30_2, t37_4] fun t38_7 w =>
 o pr E w (sStore 177 t11_7 t38_7) fun _ w =>
 o pr E w (sNil a0) fun t40_7 w =>
 o pr E w (sFA 174 t40_7 4) fun t41_7 w =>
 o pr E w (sLoad 3 t41_7) fun t42_7 w =>
 o pr E w (sBinC .sub 3 t42_7 (Value.int IntKind.i64 1) 3) fun t43_7 w =>
 o pr E w (sNil a0) fun t44_7 w =>
 o pr E w (sFA 174 t44_7 4) fun t45_7 w =>
 o pr E w (sStore 3 t45_7 t43_7) fun _ w =>
 o pr E w (sLoad 177 t11_7) fun t46_7 w =>
 o pr E w (sStore 177 t8 t46_7) fun _ w =>
 rs pr w t8 177 fun v0_7 =>
 K v0_7 w)) ∧
 (o pr E w (sAlloc 177) fun t11_8 w =>
 rk pr w (sLoad 177 t9_2) t36_2 ∧
 rk pr w (sLoad 83 t34_2) t35_2 ∧
 rk pr w (sLoad 177 t6) t30_2 ∧
 cl pr E w n_sv_list #[a0, t35_2, t36_2] fun t37_5 w =>
 rk pr w (sLoad 177 t6) t30_2 ∧
 cl pr E w n_sv_both #[a0, t30_2, t37_5] fun t38_8 w =>
 o pr E w (sStore 177 t11_8 t38_8) fun _ w =>
 o pr E w (sNil a0) fun t40_8 w =>
 o pr E w (sFA 174 t40_8 4) fun t41_8 w =>
 o pr E w (sLoad 3 t41_8) fun t42_8 w =>
 o pr E w (sBinC .sub 3 t42_8 (Value.int IntKind.i64 1) 3) fun t43_8 w =>
 o pr E w (sNil a0) fun t44_8 w =>
 o pr E w (sFA 174 t44_8 4) fun t45_8 w =>
 o pr E w (sStore 3 t45_8 t43_8) fun _ w =>
 o pr E w (sLoad 177 t11_8) fun t46_8 w =>
 o pr E w (sStore 177 t8 t46_8) fun _ w =>
 rs pr w t8 177 fun v0_8 =>
 K v0_8 w)) (dr w)) ∧
 (o pr E w (sAlloc 177) fun t10_3 w =>
 rk pr w (sLoad 177 t7) t25 ∧
 rk pr w (sLoad 151 t23) t24 ∧
 cl pr E w n_sv_split #[a0, t24, t25] fun t26_2 w =>
 oz pr (sExt t26_2 0) fun t27_2 =>
 oz pr (sExt t26_2 1) fun t28_2 =>
 o pr E w (sStore 177 t9_2 t27_2) fun _ w =>
 o pr E w (sStore 177 t10_3 t28_2) fun _ w =>
 (fun w =>
 oa pr w (sLoad 177 t6) fun t30_3 =>
 oz pr (sNil a1) fun t33_3 =>
 oz pr (sFA 159 t33_3 2) fun t34_3 =>
 oa pr w (sLoad 83 t34_3) fun t35_3 =>
 oa pr w (sLoad 177 t9_2) fun t36_3 =>
 (cl pr E w n_sv_list #[a0, t35_3, t36_3] fun t37_6 w =>
 rk pr w (sLoad 177 t6) t30_3 ∧
 (cl pr E w n_sv_both #[a0, t30_3, t37_6] fun t38_9 w =>
 o pr E w (sAlloc 177) fun t11_9 w =>
 o pr E w (sStore 177 t11_9 t38_9) fun _ w =>
 o pr E w (sNil a0) fun t40_9 w =>
 o pr E w (sFA 174 t40_9 4) fun t41_9 w =>
 o pr E w (sLoad 3 t41_9) fun t42_9 w =>
 o pr E w (sBinC .sub 3 t42_9 (Value.int IntKind.i64 1) 3) fun t43_9 w =>
 o pr E w (sNil a0) fun t44_9 w =>
 o pr E w (sFA 174 t44_9 4) fun t45_9 w =>
 o pr E w (sStore 3 t45_9 t43_9) fun _ w =>
 o pr E w (sLoad 177 t11_9) fun t46_9 w =>
 o pr E w (sStore 177 t8 t46_9) fun _ w =>
 rs pr w t8 177 fun v0_9 =>
 K v0_9 w) ∧
 (o pr E w (sAlloc 177) fun t11_10 w =>
 rk pr w (sLoad 177 t6) t30_3 ∧
 cl pr E w n_sv_both #[a0, t30_3, t37_6] fun t38_10 w =>
 o pr E w (sStore 177 t11_10 t38_10) fun _ w =>
 o pr E w (sNil a0) fun t40_10 w =>
 o pr E w (sFA 174 t40_10 4) fun t41_10 w =>
 o pr E w (sLoad 3 t41_10) fun t42_10 w =>
 o pr E w (sBinC .sub 3 t42_10 (Value.int IntKind.i64 1) 3) fun t43_10 w =>
 o pr E w (sNil a0) fun t44_10 w =>
 o pr E w (sFA 174 t44_10 4) fun t45_10 w =>
 o pr E w (sStore 3 t45_10 t43_10) fun _ w =>
 o pr E w (sLoad 177 t11_10) fun t46_10 w =>
 o pr E w (sStore 177 t8 t46_10) fun _ w =>
 rs pr w t8 177 fun v0_10 =>
 K v0_10 w)) ∧
 (o pr E w (sAlloc 177) fun t11_11 w =>
 rk pr w (sLoad 177 t9_2) t36_3 ∧
 rk pr w (sLoad 83 t34_3) t35_3 ∧
 rk pr w (sLoad 177 t6) t30_3 ∧
 cl pr E w n_sv_list #[a0, t35_3, t36_3] fun t37_7 w =>
 rk pr w (sLoad 177 t6) t30_3 ∧
 cl pr E w n_sv_both #[a0, t30_3, t37_7] fun t38_11 w =>
 o pr E w (sStore 177 t11_11 t38_11) fun _ w =>
 o pr E w (sNil a0) fun t40_11 w =>
 o pr E w (sFA 174 t40_11 4) fun t41_11 w =>
 o pr E w (sLoad 3 t41_11) fun t42_11 w =>
 o pr E w (sBinC .sub 3 t42_11 (Value.int IntKind.i64 1) 3) fun t43_11 w =>
 o pr E w (sNil a0) fun t44_11 w =>
 o pr E w (sFA 174 t44_11 4) fun t45_11 w =>
 o pr E w (sStore 3 t45_11 t43_11) fun _ w =>
 o pr E w (sLoad 177 t11_11) fun t46_11 w =>
 o pr E w (sStore 177 t8 t46_11) fun _ w =>
 rs pr w t8 177 fun v0_11 =>
 K v0_11 w)) (dr w))) ∧
 (o pr E w (sAlloc 177) fun t10_4 w =>
 rk pr w (sLoad 177 t7) t25 ∧
 rk pr w (sLoad 151 t23) t24 ∧
 (cl pr E w n_sv_split #[a0, t24, t25] fun t26_3 w =>
 oz pr (sExt t26_3 0) fun t27_3 =>
 oz pr (sExt t26_3 1) fun t28_3 =>
 o pr E w (sAlloc 177) fun t9_3 w =>
 o pr E w (sStore 177 t9_3 t27_3) fun _ w =>
 o pr E w (sStore 177 t10_4 t28_3) fun _ w =>
 (fun w =>
 oa pr w (sLoad 177 t6) fun t30_4 =>
 oz pr (sNil a1) fun t33_4 =>
 oz pr (sFA 159 t33_4 2) fun t34_4 =>
 oa pr w (sLoad 83 t34_4) fun t35_4 =>
 oa pr w (sLoad 177 t9_3) fun t36_4 =>
 (cl pr E w n_sv_list #[a0, t35_4, t36_4] fun t37_8 w =>
 rk pr w (sLoad 177 t6) t30_4 ∧
 (cl pr E w n_sv_both #[a0, t30_4, t37_8] fun t38_12 w =>
 o pr E w (sAlloc 177) fun t11_12 w =>
 o pr E w (sStore 177 t11_12 t38_12) fun _ w =>
 o pr E w (sNil a0) fun t40_12 w =>
 o pr E w (sFA 174 t40_12 4) fun t41_12 w =>
 o pr E w (sLoad 3 t41_12) fun t42_12 w =>
 o pr E w (sBinC .sub 3 t42_12 (Value.int IntKind.i64 1) 3) fun t43_12 w =>
 o pr E w (sNil a0) fun t44_12 w =>
 o pr E w (sFA 174 t44_12 4) fun t45_12 w =>
 o pr E w (sStore 3 t45_12 t43_12) fun _ w =>
 o pr E w (sLoad 177 t11_12) fun t46_12 w =>
 o pr E w (sStore 177 t8 t46_12) fun _ w =>
 rs pr w t8 177 fun v0_12 =>
 K v0_12 w) ∧
 (o pr E w (sAlloc 177) fun t11_13 w =>
 rk pr w (sLoad 177 t6) t30_4 ∧
 cl pr E w n_sv_both #[a0, t30_4, t37_8] fun t38_13 w =>
 o pr E w (sStore 177 t11_13 t38_13) fun _ w =>
 o pr E w (sNil a0) fun t40_13 w =>
 o pr E w (sFA 174 t40_13 4) fun t41_13 w =>
 o pr E w (sLoad 3 t41_13) fun t42_13 w =>
 o pr E w (sBinC .sub 3 t42_13 (Value.int IntKind.i64 1) 3) fun t43_13 w =>
 o pr E w (sNil a0) fun t44_13 w =>
 o pr E w (sFA 174 t44_13 4) fun t45_13 w =>
 o pr E w (sStore 3 t45_13 t43_13) fun _ w =>
 o pr E w (sLoad 177 t11_13) fun t46_13 w =>
 o pr E w (sStore 177 t8 t46_13) fun _ w =>
 rs pr w t8 177 fun v0_13 =>
 K v0_13 w)) ∧
 (o pr E w (sAlloc 177) fun t11_14 w =>
 rk pr w (sLoad 177 t9_3) t36_4 ∧
 rk pr w (sLoad 83 t34_4) t35_4 ∧
 rk pr w (sLoad 177 t6) t30_4 ∧
 cl pr E w n_sv_list #[a0, t35_4, t36_4] fun t37_9 w =>
 rk pr w (sLoad 177 t6) t30_4 ∧
 cl pr E w n_sv_both #[a0, t30_4, t37_9] fun t38_14 w =>
 o pr E w (sStore 177 t11_14 t38_14) fun _ w =>
 o pr E w (sNil a0) fun t40_14 w =>
 o pr E w (sFA 174 t40_14 4) fun t41_14 w =>
 o pr E w (sLoad 3 t41_14) fun t42_14 w =>
 o pr E w (sBinC .sub 3 t42_14 (Value.int IntKind.i64 1) 3) fun t43_14 w =>
 o pr E w (sNil a0) fun t44_14 w =>
 o pr E w (sFA 174 t44_14 4) fun t45_14 w =>
 o pr E w (sStore 3 t45_14 t43_14) fun _ w =>
 o pr E w (sLoad 177 t11_14) fun t46_14 w =>
 o pr E w (sStore 177 t8 t46_14) fun _ w =>
 rs pr w t8 177 fun v0_14 =>
 K v0_14 w)) (dr w)) ∧
 (o pr E w (sAlloc 177) fun t9_4 w =>
 rk pr w (sLoad 177 t7) t25 ∧
 rk pr w (sLoad 151 t23) t24 ∧
 cl pr E w n_sv_split #[a0, t24, t25] fun t26_4 w =>
 oz pr (sExt t26_4 0) fun t27_4 =>
 oz pr (sExt t26_4 1) fun t28_4 =>
 o pr E w (sStore 177 t9_4 t27_4) fun _ w =>
 o pr E w (sStore 177 t10_4 t28_4) fun _ w =>
 (fun w =>
 oa pr w (sLoad 177 t6) fun t30_5 =>
 oz pr (sNil a1) fun t33_5 =>
 oz pr (sFA 159 t33_5 2) fun t34_5 =>
 oa pr w (sLoad 83 t34_5) fun t35_5 =>
 oa pr w (sLoad 177 t9_4) fun t36_5 =>
 (cl pr E w n_sv_list #[a0, t35_5, t36_5] fun t37_10 w =>
 rk pr w (sLoad 177 t6) t30_5 ∧
 (cl pr E w n_sv_both #[a0, t30_5, t37_10] fun t38_15 w =>
 o pr E w (sAlloc 177) fun t11_15 w =>
 o pr E w (sStore 177 t11_15 t38_15) fun _ w =>
 o pr E w (sNil a0) fun t40_15 w =>
 o pr E w (sFA 174 t40_15 4) fun t41_15 w =>
 o pr E w (sLoad 3 t41_15) fun t42_15 w =>
 o pr E w (sBinC .sub 3 t42_15 (Value.int IntKind.i64 1) 3) fun t43_15 w =>
 o pr E w (sNil a0) fun t44_15 w =>
 o pr E w (sFA 174 t44_15 4) fun t45_15 w =>
 o pr E w (sStore 3 t45_15 t43_15) fun _ w =>
 o pr E w (sLoad 177 t11_15) fun t46_15 w =>
 o pr E w (sStore 177 t8 t46_15) fun _ w =>
 rs pr w t8 177 fun v0_15 =>
 K v0_15 w) ∧
 (o pr E w (sAlloc 177) fun t11_16 w =>
 rk pr w (sLoad 177 t6) t30_5 ∧
 cl pr E w n_sv_both #[a0, t30_5, t37_10] fun t38_16 w =>
 o pr E w (sStore 177 t11_16 t38_16) fun _ w =>
 o pr E w (sNil a0) fun t40_16 w =>
 o pr E w (sFA 174 t40_16 4) fun t41_16 w =>
 o pr E w (sLoad 3 t41_16) fun t42_16 w =>
 o pr E w (sBinC .sub 3 t42_16 (Value.int IntKind.i64 1) 3) fun t43_16 w =>
 o pr E w (sNil a0) fun t44_16 w =>
 o pr E w (sFA 174 t44_16 4) fun t45_16 w =>
 o pr E w (sStore 3 t45_16 t43_16) fun _ w =>
 o pr E w (sLoad 177 t11_16) fun t46_16 w =>
 o pr E w (sStore 177 t8 t46_16) fun _ w =>
 rs pr w t8 177 fun v0_16 =>
 K v0_16 w)) ∧
 (o pr E w (sAlloc 177) fun t11_17 w =>
 rk pr w (sLoad 177 t9_4) t36_5 ∧
 rk pr w (sLoad 83 t34_5) t35_5 ∧
 rk pr w (sLoad 177 t6) t30_5 ∧
 cl pr E w n_sv_list #[a0, t35_5, t36_5] fun t37_11 w =>
 rk pr w (sLoad 177 t6) t30_5 ∧
 cl pr E w n_sv_both #[a0, t30_5, t37_11] fun t38_17 w =>
 o pr E w (sStore 177 t11_17 t38_17) fun _ w =>
 o pr E w (sNil a0) fun t40_17 w =>
 o pr E w (sFA 174 t40_17 4) fun t41_17 w =>
 o pr E w (sLoad 3 t41_17) fun t42_17 w =>
 o pr E w (sBinC .sub 3 t42_17 (Value.int IntKind.i64 1) 3) fun t43_17 w =>
 o pr E w (sNil a0) fun t44_17 w =>
 o pr E w (sFA 174 t44_17 4) fun t45_17 w =>
 o pr E w (sStore 3 t45_17 t43_17) fun _ w =>
 o pr E w (sLoad 177 t11_17) fun t46_17 w =>
 o pr E w (sStore 177 t8 t46_17) fun _ w =>
 rs pr w t8 177 fun v0_17 =>
 K v0_17 w)) (dr w)))) (dr w)
def lv_sv_round : Lives := [(1, [0, 1, 6, 7, 8]), (2, [0, 1, 6, 7, 8]), (3, [0, 1, 6, 8, 9]), (4, [0, 8, 11]), (5, [8, 11])]
theorem sh_sv_round_ok (a0 a1 a2 a3 : Value) (w : World) (R : Ending → World → Prop)
 (h : sh_sv_round (fun v w => R (.returned v) w) (fun c w => R (.panicked c) w) a0 a1 a2 a3 w) : Calls pr n_sv_round #[a0, a1, a2, a3] w R :=
 calls_of_W (A := lv_sv_round) enters mixed Go.Proofs.Tryz.func82 (by kernel_rfl) (by kernel_rfl) (by kernel_rfl)
  (Eq.mp (by kernel_rfl) h)
end Go.Inv
namespace Go.Inv
open Go.Sh
structure Emb (V : Type) where
 a : V → Int
 b : V → Int
section
variable {V : Type} (e : Emb V)
def Emb.l (x : V) : List Value := [.int .i64 (e.a x), .int .i64 (e.b x)]
abbrev Emb.v (x : V) : Value := .agg #[.int .i64 (e.a x), .int .i64 (e.b x)]
def stL (x : St V) : List Value := .bool x.some :: x.vars.flatMap e.l
def stA (x : St V) : Array Value := (stL e x).toArray
def fcA (fs : List (St V)) : Array Value := (fs.flatMap (stL e)).toArray
theorem flat_len {α β : Type} {f : α → List β} {k : Nat} : ∀ {l : List α}, (∀ x ∈ l, (f x).length = k) → (l.flatMap f).length = l.length * k
 | [], _ => by simp
 | x :: l, h => by
   rw [List.flatMap_cons, List.length_append, h x (by simp), flat_len (fun y hy => h y (by simp [hy])), List.length_cons, Nat.add_mul, Nat.one_mul, Nat.add_comm]
theorem flat_split {α β : Type} {f : α → List β} {l : List α} {i : Nat} (hi : i < l.length) : l.flatMap f = (l.take i).flatMap f ++ (f l[i] ++ (l.drop (i + 1)).flatMap f) := by
 conv => lhs; rw [← List.take_append_drop i l, List.drop_eq_getElem_cons hi]
 rw [List.flatMap_append, List.flatMap_cons]
theorem flat_set {α β : Type} {f : α → List β} {l : List α} {i : Nat} (u : α) (hi : i < l.length) : (l.set i u).flatMap f = (l.take i).flatMap f ++ (f u ++ (l.drop (i + 1)).flatMap f) := by
 rw [List.set_eq_take_append_cons_drop, if_pos hi, List.flatMap_append, List.flatMap_cons]
theorem take_len {α β : Type} {f : α → List β} {k : Nat} {l : List α} {i : Nat} (h : ∀ x ∈ l, (f x).length = k) (hi : i < l.length) : ((l.take i).flatMap f).length = i * k := by
 rw [flat_len (fun x hx => h x (List.mem_of_mem_take hx)), List.length_take, Nat.min_eq_left (by omega)]
theorem stL_len {x : St V} (h : x.vars.length = 8) : (stL e x).length = 17 := by
 unfold stL; rw [List.length_cons, flat_len (k := 2) (fun _ _ => rfl), h]
theorem stA_size {x : St V} (h : x.vars.length = 8) : (stA e x).size = 17 := by unfold stA; simpa using stL_len e h
theorem isOne_stL (x : St V) : (stL e x).all isOne = true := by
 unfold stL
 rw [List.all_cons, List.all_flatMap]
 simp [isOne, Emb.l]
theorem isOne_stA (x : St V) : (stA e x).toList.all isOne = true := isOne_stL e x
theorem row_mid {p q r : List Value} {t : Nat} {f : Nat × Nat} {i n : Nat} (hi : p.length = i) (hn : q.length = n) : blkRow (some (.cells (p ++ (q ++ r)).toArray t f)) i n = some (.agg q.toArray) := by
 subst hi; subst hn
 unfold blkRow
 simp only
 rw [if_pos (by simp)]
 congr 2
 apply Array.toList_inj.1
 simp [List.extract_eq_take_drop]
theorem heap_putL_ne {b c : Nat} (h : c ≠ b) : ∀ (vs : List Value) (i : Nat) (w : World), (putL w b i vs).heap[c]? = w.heap[c]?
 | [], _, _ => rfl
 | v :: vs, i, w => by rw [putL, heap_putL_ne h vs]; exact heap_put_ne h
theorem size_putL (b : Nat) : ∀ (vs : List Value) (i : Nat) (w : World), (putL w b i vs).heap.size = w.heap.size
 | [], _, _ => rfl
 | v :: vs, i, w => by rw [putL, size_putL b vs]; exact size_put _ _
theorem st_some (x : St V) (t : Nat) (f : Nat × Nat) : blkCell (some (.cells (stA e x) t f)) 0 = some (.bool x.some) := by
 unfold blkCell stA stL; simp
theorem st_split {x : St V} {v : Nat} {d : V} (h : x.vars.length = 8) (hv : v < 8) : stL e x = (.bool x.some :: (x.vars.take v).flatMap e.l) ++ (e.l (x.vars.getD v d) ++ (x.vars.drop (v + 1)).flatMap e.l) ∧ (Value.bool x.some :: (x.vars.take v).flatMap e.l).length = 1 + v * 2 := by
 have hv' : v < x.vars.length := by omega
 refine ⟨?_, ?_⟩
 ·unfold stL
  rw [flat_split hv']
  simp [List.getD_eq_getElem?_getD, hv']
 ·rw [List.length_cons, take_len (k := 2) (fun _ _ => rfl) hv']; omega
theorem st_get {x : St V} {v : Nat} {t : Nat} {f : Nat × Nat} (d : V) (h : x.vars.length = 8) (hv : v < 8) : blkRow (some (.cells (stA e x) t f)) (1 + v * 2) 2 = some (e.v (x.vars.getD v d)) := by
 obtain ⟨h1, h2⟩ := st_split e (d := d) h hv
 unfold stA; rw [h1]
 exact row_mid h2 rfl
theorem st_all {x : St V} {t : Nat} {f : Nat × Nat} (h : x.vars.length = 8) : blkRow (some (.cells (stA e x) t f)) 0 17 = some (.agg (stA e x)) := by
 have := row_mid (p := []) (q := stL e x) (r := []) (t := t) (f := f) rfl (stL_len e h)
 simpa [stA] using this
theorem st_ok {x : St V} {t i n : Nat} (h : x.vars.length = 8) (hi : i + n ≤ 17) : okRow (some (.cells (stA e x) t (0, 0))) i n = true := by
 have := stA_size e h
 simp [okRow, this, hi]
theorem fc_split {fs : List (St V)} {i : Nat} {d : St V} (h : ∀ x ∈ fs, x.vars.length = 8) (hi : i < fs.length) : fs.flatMap (stL e) = (fs.take i).flatMap (stL e) ++ (stL e (fs.getD i d) ++ (fs.drop (i + 1)).flatMap (stL e)) ∧ ((fs.take i).flatMap (stL e)).length = i * 17 := by
 refine ⟨?_, take_len (fun x hx => stL_len e (h x hx)) hi⟩
 rw [flat_split hi]
 simp [List.getD_eq_getElem?_getD, hi]
theorem mem_getD {α : Type} {l : List α} {i : Nat} {d : α} (hi : i < l.length) : l.getD i d ∈ l := by
 rw [List.getD_eq_getElem?_getD, List.getElem?_eq_getElem hi]; exact List.getElem_mem hi
theorem fc_get {fs : List (St V)} {i t : Nat} {f : Nat × Nat} (d : St V) (h : ∀ x ∈ fs, x.vars.length = 8) (hi : i < fs.length) : blkRow (some (.cells (fcA e fs) t f)) (i * 17) 17 = some (.agg (stA e (fs.getD i d))) := by
 obtain ⟨h1, h2⟩ := fc_split e (d := d) h hi
 unfold fcA; rw [h1]
 exact row_mid h2 (stL_len e (h _ (mem_getD hi)))
theorem fc_size {fs : List (St V)} (h : ∀ x ∈ fs, x.vars.length = 8) : (fcA e fs).size = fs.length * 17 := by
 unfold fcA; rw [List.size_toArray, flat_len (fun x hx => stL_len e (h x hx))]
theorem fc_ok {fs : List (St V)} {t i : Nat} (h : ∀ x ∈ fs, x.vars.length = 8) (hi : i < fs.length) : okRow (some (.cells (fcA e fs) t (0, 0))) (i * 17) 17 = true := by
 have := fc_size e h
 simp [okRow, this]; omega
end
def setR (c : Array Value) (i : Nat) : List Value → Array Value
 | [] => c
 | v :: r => setR (c.setIfInBounds i v) (i + 1) r
def rowObj (i : Nat) (vs : List Value) : Obj → Obj
 | .cells c t f => .cells (setR c i vs) t f
 | x => x
theorem get_putL (b c : Nat) : ∀ (vs : List Value) (i : Nat) (w : World), (putL w b i vs).heap[c]? = if c = b then (w.heap[b]?).map (rowObj i vs) else w.heap[c]?
 | [], i, w => by
   split
   ·rename_i h; subst h
    show w.heap[c]? = _
    cases w.heap[c]? with
    | none => rfl
    | some o => cases o <;> rfl
   ·rfl
 | v :: vs, i, w => by
   rw [putL, get_putL b c vs]
   split
   ·rename_i h; subst h
    rw [heap_put_self]
    cases w.heap[c]? with
    | none => rfl
    | some o => cases o <;> rfl
   ·rename_i h; exact heap_put_ne h
theorem setR_mid {r : List Value} : ∀ (vs p q : List Value), q.length = vs.length → setR (p ++ (q ++ r)).toArray p.length vs = (p ++ (vs ++ r)).toArray
 | [], p, q, hq => by
   have : q = [] := List.length_eq_zero_iff.1 hq
   subst this; rfl
 | v :: vs, p, [], hq => by cases hq
 | v :: vs, p, c :: q, hq => by
   have h2 := setR_mid (r := r) vs (p ++ [v]) q (by simpa using hq)
   rw [List.length_append] at h2
   have e : (p ++ (c :: q ++ r)).toArray.setIfInBounds p.length v = ((p ++ [v]) ++ (q ++ r)).toArray := by
    apply Array.toList_inj.1
    simp
   rw [setR, e]
   have h3 : p.length + [v].length = p.length + 1 := rfl
   rw [h3] at h2
   rw [h2]
   simp
section
variable {V : Type} (e : Emb V)
theorem row_st {x y : St V} {t : Nat} {f : Nat × Nat} (h : x.vars.length = 8) (h2 : y.vars.length = 8) : Option.map (rowObj 0 (stA e y).toList) (some (.cells (stA e x) t f)) = some (.cells (stA e y) t f) := by
 have := setR_mid (r := []) (stL e y) [] (stL e x) (by rw [stL_len e h, stL_len e h2])
 simp only [Option.map_some, rowObj]
 congr 2
 simpa [stA] using this
theorem row_set {x : St V} {v t : Nat} {f : Nat × Nat} (u : V) (h : x.vars.length = 8) (hv : v < 8) : Option.map (rowObj (1 + v * 2) [.int .i64 (e.a u), .int .i64 (e.b u)]) (some (.cells (stA e x) t f)) = some (.cells (stA e (setSt v u x)) t f) := by
 obtain ⟨h1, h2⟩ := st_split e (d := u) h hv
 simp only [Option.map_some, rowObj]
 congr 2
 unfold stA
 have := setR_mid (r := (x.vars.drop (v + 1)).flatMap e.l) [.int .i64 (e.a u), .int .i64 (e.b u)] (Value.bool x.some :: (x.vars.take v).flatMap e.l) (e.l (x.vars.getD v u)) rfl
 rw [h1, ← h2, this]
 unfold stL setSt
 simp only
 rw [flat_set u (by omega)]
 rfl
theorem row_fc {fs : List (St V)} {i t : Nat} {f : Nat × Nat} {y : St V} (h : ∀ x ∈ fs, x.vars.length = 8) (hi : i < fs.length) (hy : y.vars.length = 8) : Option.map (rowObj (i * 17) (stA e y).toList) (some (.cells (fcA e fs) t f)) = some (.cells (fcA e (fs.set i y)) t f) := by
 obtain ⟨h1, h2⟩ := fc_split e (d := y) h hi
 simp only [Option.map_some, rowObj]
 congr 2
 unfold fcA
 rw [h1, ← h2]
 have := setR_mid (r := (fs.drop (i + 1)).flatMap (stL e)) (stL e y) ((fs.take i).flatMap (stL e)) (stL e (fs.getD i y)) (by rw [stL_len e hy, stL_len e (h _ (mem_getD hi))])
 rw [show (stA e y).toList = stL e y from rfl, this, flat_set y hi]
end
end Go.Inv
namespace Go.Inv
open Go.Sh
abbrev tySolver : Nat := 174
abbrev tyState : Nat := 177
abbrev domV (sv : Value) : Value := .iface tySpans (.agg #[sv])
def spE : Emb Span := ⟨Span.lo, Span.hi⟩
abbrev sA (x : St Span) : Array Value := stA spE x
structure SvC where
 B : Nat
 s : Nat
 fb : Nat
 sb : Nat
 P : Nat
 S : Nat
 d : Int
 thr : Bool
 cfg : Cfg
 sv : Value
 steps : List Int
structure SvC.Ok (C : SvC) : Prop where
 sf : C.s ≠ C.fb
 ss : C.s ≠ C.sb
 fs : C.fb ≠ C.sb
 bs : C.B ≤ C.s
 bf : C.B ≤ C.fb
 bb : C.B ≤ C.sb
 len : C.steps.length ≤ 1000000
 one : isOne C.sv = true
 own : ∀ k, C.sv.ownBlock = some k → k < C.B
abbrev SvC.O (C : SvC) : DomOk (spans C.steps) := spansOk C.steps
abbrev SvC.D (C : SvC) : Dom Span := spans C.steps
structure SvAt (C : SvC) (w : World) (a : AS Span) (q : Nat) : Prop where
 sol : w.heap[C.s]? = some (.cells #[domV C.sv, vi C.d, vi C.cfg.delay, vi C.cfg.narrow, vi C.cfg.unroll, .bool C.thr, .slice (some ⟨C.fb, 0, none⟩) C.P C.P, .slice (some ⟨C.sb, 0, none⟩) C.S C.S, vi q] tySolver (0, 0))
 fc : w.heap[C.fb]? = some (.cells (fcA spE a.facts) tyState (0, 0))
 sc : w.heap[C.sb]? = some (.cells (a.sites.map fun n : Nat => vi n).toArray 3 (0, 0))
 st : IntsAt w C.sv C.steps
structure FrS (C : SvC) (w w' : World) : Prop where
 size : w.heap.size ≤ w'.heap.size
 old : ∀ c, c < w.heap.size → c ≠ C.s → c ≠ C.fb → c ≠ C.sb → w'.heap[c]? = w.heap[c]?
 out : Out w w'
theorem FrS.refl (C : SvC) (w : World) : FrS C w w := ⟨Nat.le_refl _, fun _ _ _ _ _ => rfl, .refl _⟩
theorem FrS.trans {C : SvC} {a b c : World} (h : FrS C a b) (g : FrS C b c) : FrS C a c :=
 ⟨Nat.le_trans h.size g.size, fun i hi h1 h2 h3 => (g.old i (Nat.lt_of_lt_of_le hi h.size) h1 h2 h3).trans (h.old i hi h1 h2 h3), h.out.trans g.out⟩
theorem Old.frS {C : SvC} {a b : World} (h : Old a b) : FrS C a b := ⟨h.size, fun c hc _ _ _ => h.old c hc, h.out⟩
theorem FrS.dr {C : SvC} {a b : World} (h : FrS C a b) : FrS C a (dr b) := ⟨h.size, h.old, h.out.dr⟩
theorem FrS.heap {C : SvC} {a b : World} (h : FrS C a b) {c : Nat} {y : Obj} (hc : a.heap[c]? = some y) (h1 : c ≠ C.s) (h2 : c ≠ C.fb) (h3 : c ≠ C.sb) : b.heap[c]? = some y := by
 rw [h.old c (lt_of_heap hc) h1 h2 h3]; exact hc
theorem FrS.put {C : SvC} {a b : World} (h : FrS C a b) {k i : Nat} {v : Value} (hk : k = C.s ∨ k = C.fb ∨ k = C.sb ∨ a.heap.size ≤ k) : FrS C a (put b k i v) :=
 ⟨by rw [size_put]; exact h.size, fun c hc h1 h2 h3 => by rw [heap_put_ne (by omega)]; exact h.old c hc h1 h2 h3, h.out.put⟩
theorem FrS.putL {C : SvC} {a : World} {k : Nat} (hk : k = C.s ∨ k = C.fb ∨ k = C.sb ∨ a.heap.size ≤ k) : ∀ {vs : List Value} {i : Nat} {b : World}, FrS C a b → FrS C a (Sh.putL b k i vs)
 | [], _, _, h => h
 | _ :: vs, i, b, h => FrS.putL (vs := vs) hk (FrS.put h hk)
theorem Old.putL {a : World} {k : Nat} (hk : a.heap.size ≤ k) : ∀ {vs : List Value} {i : Nat} {b : World}, Old a b → Old a (Sh.putL b k i vs)
 | [], _, _, h => h
 | _ :: vs, i, b, h => Old.putL (vs := vs) hk (Old.put h hk)
theorem SvAt.ls {C : SvC} {w : World} {a : AS Span} {q : Nat} (h : SvAt C w a q) : C.s < w.heap.size ∧ C.fb < w.heap.size ∧ C.sb < w.heap.size := ⟨lt_of_heap h.sol, lt_of_heap h.fc, lt_of_heap h.sc⟩
theorem SvAt.old {C : SvC} {w w' : World} {a : AS Span} {q : Nat} (h : SvAt C w a q) (ho : Old w w') : SvAt C w' a q :=
 ⟨ho.heap h.sol, ho.heap h.fc, ho.heap h.sc, h.st.old ho⟩
theorem SvAt.dr {C : SvC} {w : World} {a : AS Span} {q : Nat} (h : SvAt C w a q) : SvAt C (dr w) a q := h.old ((Old.refl w).dr)
theorem IntsAt.keep {w w' : World} {v : Value} {l : List Int} (h : IntsAt w v l) (hk : ∀ k, v.ownBlock = some k → w'.heap[k]? = w.heap[k]?) : IntsAt w' v l := by
 rcases h with ⟨h1, h2⟩ | ⟨b, off, c, cs, t, f, h1, h2, h3⟩
 ·exact .inl ⟨h1, h2⟩
 ·exact .inr ⟨b, off, c, cs, t, f, h1, by rw [hk b (by rw [h1]; rfl)]; exact h2, h3⟩
theorem SvAt.putC {C : SvC} (hC : C.Ok) {w : World} {a : AS Span} {q : Nat} (h : SvAt C w a q) {k i : Nat} {v : Value} (hk : C.B ≤ k) : IntsAt (put w k i v) C.sv C.steps :=
 h.st.keep fun j hj => by have := hC.own j hj; rw [heap_put_ne (by omega)]
theorem int_putL {C : SvC} (hC : C.Ok) {k : Nat} (hk : C.B ≤ k) {vs : List Value} {i : Nat} {w : World} (h : IntsAt w C.sv C.steps) : IntsAt (Sh.putL w k i vs) C.sv C.steps :=
 h.keep fun j hj => by have := hC.own j hj; rw [heap_putL_ne (by omega)]
theorem gE5 (a b c d e f : Value) (l : List Value) : (a :: b :: c :: d :: e :: f :: l).toArray[5]? = some f := by simp
theorem gE6 (a b c d e f g : Value) (l : List Value) : (a :: b :: c :: d :: e :: f :: g :: l).toArray[6]? = some g := by simp
theorem gE7 (a b c d e f g h : Value) (l : List Value) : (a :: b :: c :: d :: e :: f :: g :: h :: l).toArray[7]? = some h := by simp
theorem gE8 (a b c d e f g h i : Value) (l : List Value) : (a :: b :: c :: d :: e :: f :: g :: h :: i :: l).toArray[8]? = some i := by simp
def GE := And.intro gE5 <| And.intro gE6 <| And.intro gE7 gE8
def SvP (C : SvC) (w : World) (q : Nat) (v : Value) (a : AS Span) : Ending → World → Prop := fun e w' => e = .returned v ∧ FrS C w w' ∧ SvAt C w' a q
abbrev rcd (q : Nat) : Bool := decide (q = 0)
theorem set_map (l : List Nat) (i v : Nat) : ((l.map fun n : Nat => vi n).toArray).setIfInBounds i (vi v) = ((l.set i v).map fun n : Nat => vi n).toArray := by simp
theorem getSite {l : List Nat} {i t : Nat} {f : Nat × Nat} (h : i < l.length) : blkCell (some (.cells ((l.map fun n : Nat => vi n).toArray) t f)) i = some (vi (l.getD i 0 : Nat)) := by
 unfold blkCell; simp [h, List.getD_eq_getElem?_getD]
theorem SvAt.site {C : SvC} (hC : C.Ok) {w : World} {a : AS Span} {q : Nat} (h : SvAt C w a q) (i v : Nat) : SvAt C (put w C.sb i (vi v)) { a with sites := a.sites.set i v } q :=
 ⟨by rw [heap_put_ne hC.ss]; exact h.sol, by rw [heap_put_ne hC.fs]; exact h.fc, by rw [heap_put_self, h.sc, Option.map_some, setObj', set_map], h.putC hC hC.bb⟩
theorem rIAs22 (b n c i : Nat) (h : i < n) : Pur pr (sIA 22 (.slice (some ⟨b, 0, none⟩) n c) (vi i)) (pt b i) := by
 have := pur_IAs (b := b) (off := 0) (n := n) (c := c) el22 (Int.natCast_nonneg i) (by omega : (i : Int) < n)
 simpa using this
theorem condJ {p : Prop} [Decidable p] {b : Bool} {x y : Prop} (h : b = decide p) (h1 : p → x) (h2 : ¬ p → y) : condP (.bool b) x y := by
 subst h
 refine condP_split (fun h => h1 (of_decide_eq_true h)) (fun h => h2 (of_decide_eq_false h))
theorem tell_ok {C : SvC} (hC : C.Ok) {w : World} {a : AS Span} {q : Nat} {site : Int} {bad : Bool} (h : SvAt C w a q) (hS : a.sites.length = C.S) (hs : site < C.S) :
 Calls pr n_sv_tell #[pt C.s 0, vi site, .bool bad] w (SvP C w q (.tuple #[]) (tellA (rcd q) site bad a)) := by
 refine sh_sv_tell_ok _ _ _ _ _ ?_
 unfold sh_sv_tell
 have nop : (!rcd q || decide (site < 0)) = true → SvP C w q (.tuple #[]) (tellA (rcd q) site bad a) (.returned (.tuple #[])) w := fun hc => by
  unfold tellA; rw [if_pos hc]; exact ⟨rfl, .refl _ _, h⟩
 simp only [↓RT7, ↓RT, ↓RG, RV, GE, h.sol]
 by_cases hq : q = 0
 ·subst hq
  have d : decide ((((0 : Nat) : Int)) > 0) = false := rfl
  simp only [d, ↓RT7, ↓RT, ↓RG, RV, GE, h.sol]
  refine condJ (p := site < 0) rfl (fun h0 => nop (by simp [h0])) (fun h0 => ?_)
  obtain ⟨i, rfl⟩ : ∃ i : Nat, site = i := ⟨site.toNat, by omega⟩
  have hi : i < C.S := by omega
  have hi' : i < a.sites.length := by omega
  have hr : (!rcd 0 || decide ((i : Int) < 0)) = false := by simp
  have e : tellA (rcd 0) i bad a = if bad = true then { a with sites := a.sites.set i 2 } else if a.sites.getD i 0 = 0 then { a with sites := a.sites.set i 1 } else a := by
   unfold tellA; rw [if_neg (by rw [hr]; simp)]; simp
  rw [e]
  have pur := rIAs22 C.sb C.S C.S i hi
  have dI : decide (i < a.sites.length) = true := decide_eq_true hi'
  refine condJ (p := bad = true) (by simp) (fun hb => ?_) (fun hb => ?_)
  ·simp only [hb, ↓RT7, ↓RT, ↓RG, RV, GE, h.sol, pur.o, h.sc, List.length_map, dI,  ↓reduceIte, isOne, Bool.and_self, Bool.true_and]
   exact ⟨rfl, (FrS.refl C w).put (by omega), h.site hC i 2⟩
  ·simp only [hb, ↓RT7, ↓RT, ↓RG, RV, GE, h.sol, pur.o, h.sc, getSite hi', Bool.false_eq_true, ↓reduceIte]
   by_cases hz : a.sites.getD i 0 = 0
   ·rw [hz]
    have : (((0 : Nat) : Int) == 0) = true := rfl
    simp only [this, ↓RT7, ↓RT, ↓RG, RV, GE, h.sol, pur.o, h.sc, List.length_map, dI,  ↓reduceIte, isOne, Bool.and_self, Bool.true_and]
    exact ⟨rfl, (FrS.refl C w).put (by omega), h.site hC i 1⟩
   ·have : (((a.sites.getD i 0 : Nat) : Int) == 0) = false := by simpa using hz
    simp only [this, ↓RT7, ↓RT, ↓RG, RV, GE, if_neg hz]
    exact ⟨rfl, .refl _ _, h⟩
 ·have d : decide ((q : Int) > 0) = true := by simp; omega
  simp only [d, ↓RT7, ↓RT, ↓RG, RV, GE, cond_true]
  exact nop (by simp [hq])
end Go.Inv
namespace Go.Inv
open Go.Sh
def n0 : St Span := ⟨false, List.replicate 8 ⟨0, 0⟩⟩
theorem n0_len : n0.vars.length = 8 := rfl
abbrev stVl (x : St Span) : Value := .agg (sA x)
theorem al_St (w : World) : (sAlloc 177).run pr w = .ok (.value (pt w.heap.size 0)) (w.alloc (.cells (sA n0) 177)) := by kernel_rfl
theorem bd_St (w : World) : (sBuild 177 []).run pr w = .ok (.value (.agg (sA n0))) w := by kernel_rfl
theorem rAlSt : ∀ E w K, o pr E w (sAlloc 177) K = K (pt w.heap.size 0) (w.alloc (.cells (sA n0) 177)) := fun _ w _ => o_val (al_St w)
theorem rBdSt : ∀ E w K, o pr E w (sBuild 177 []) K = K (.agg (sA n0)) w := fun _ w _ => o_val (bd_St w)
theorem agg_cells (xs : Array Value) : (Value.agg xs).cells = xs := rfl
def RSs := And.intro rAlSt <| And.intro rBdSt <| And.intro (rRs ag177) RL
theorem stR {x : St Span} (h : x.vars.length = 8) : (∀ t f, blkRow (some (.cells (sA x) t f)) 0 17 = some (.agg (sA x))) ∧ (sA x).size = 17 ∧ (∀ t, okRow (some (.cells (sA x) t (0, 0))) 0 17 = true) ∧ (sA x).toList.all isOne = true ∧
 (∀ (y : St Span) t f, y.vars.length = 8 → Option.map (rowObj 0 (sA x).toList) (some (.cells (sA y) t f)) = some (.cells (sA x) t f)) :=
 ⟨fun _ _ => st_all spE h, stA_size spE h, fun _ => st_ok spE h (by omega), isOne_stA spE x, fun _ _ _ hy => row_st spE hy h⟩
theorem someR (x : St Span) : (sA x)[0]? = some (.bool x.some) := st_some spE x 0 (0, 0)
theorem varR {x : St Span} {v : Nat} (h : x.vars.length = 8) (hv : v < 8) : (∀ t f, blkRow (some (.cells (sA x) t f)) (1 + v * 2) 2 = some (spV (x.vars.getD v ⟨0, 0⟩))) ∧ (∀ t, okRow (some (.cells (sA x) t (0, 0))) (1 + v * 2) 2 = true) ∧
 (∀ (u : Span) t f, Option.map (rowObj (1 + v * 2) [vi u.lo, vi u.hi]) (some (.cells (sA x) t f)) = some (.cells (sA (setSt v u x)) t f)) :=
 ⟨fun _ _ => st_get spE _ h hv, fun _ => st_ok spE h (by omega), fun u _ _ => row_set spE u h hv⟩
theorem setSt_len {x : St Span} (v : Nat) (u : Span) (h : x.vars.length = 8) : (setSt v u x).vars.length = 8 := by simpa [setSt] using h
theorem InvS.len {steps : List Int} {x : St Span} (h : InvS (spansOk steps) x) : x.vars.length = 8 := by
 cases hs : x.some with
 | true => exact (h.yes hs).1
 | false => rw [h.no hs]; rfl
def Lw := And.intro (fun (w : World) (b c : Nat) (vs : List Value) (i : Nat) => get_putL b c vs i w) <| And.intro (fun (b : Nat) (vs : List Value) (i : Nat) (w : World) => size_putL b vs i w) <| And.intro agg_cells someR
theorem el175 : elemA pr 175 = some (8, 2) := by kernel_rfl
theorem rIAv (b v : Nat) (h : v < 8) : Pur pr (sIA 175 (pt b 1) (vi v)) (pt b (1 + v * 2)) := by
 have := pur_IAa (b := b) (off := 1) el175 (Int.natCast_nonneg v) (by omega : (v : Int) < (8 : Nat))
 simpa using this
theorem Old.ofDr {a b : World} (h : Old (Sh.dr a) b) : Old a b := ⟨h.size, h.old, ⟨h.out.os, h.out.output⟩⟩
theorem FrS.ofDr {C : SvC} {a b : World} (h : FrS C (Sh.dr a) b) : FrS C a b := ⟨h.size, h.old, ⟨h.out.os, h.out.output⟩⟩
theorem iv_Only (sv a : Value) (w : World) : (sInvoke (domV sv) "Only" [a]).run pr w = .ok (.enter n_ds_Only #[.agg #[sv], a]) w := by kernel_rfl
theorem iv_Whole (sv : Value) (w : World) : (sInvoke (domV sv) "Whole" []).run pr w = .ok (.enter n_ds_Whole #[.agg #[sv]]) w := by kernel_rfl
theorem iv_Minus (sv a : Value) (w : World) : (sInvoke (domV sv) "Minus" [a]).run pr w = .ok (.enter n_ds_Minus #[.agg #[sv], a]) w := by kernel_rfl
theorem iv_Two (sv a b c : Value) (w : World) : (sInvoke (domV sv) "Two" [a, b, c]).run pr w = .ok (.enter n_ds_Two #[.agg #[sv], a, b, c]) w := by kernel_rfl
theorem iv_Join (sv a b : Value) (w : World) : (sInvoke (domV sv) "Join" [a, b]).run pr w = .ok (.enter n_ds_Join #[.agg #[sv], a, b]) w := by kernel_rfl
theorem iv_Meet (sv a b : Value) (w : World) : (sInvoke (domV sv) "Meet" [a, b]).run pr w = .ok (.enter n_ds_Meet #[.agg #[sv], a, b]) w := by kernel_rfl
theorem iv_Zero (sv a : Value) (w : World) : (sInvoke (domV sv) "Zero" [a]).run pr w = .ok (.enter n_ds_Zero #[.agg #[sv], a]) w := by kernel_rfl
theorem iv_Bounds (sv a b c : Value) (w : World) : (sInvoke (domV sv) "Bounds" [a, b, c]).run pr w = .ok (.enter n_ds_Bounds #[.agg #[sv], a, b, c]) w := by kernel_rfl
theorem iv_Widen (sv a b : Value) (w : World) : (sInvoke (domV sv) "Widen" [a, b]).run pr w = .ok (.enter n_ds_Widen #[.agg #[sv], a, b]) w := by kernel_rfl
theorem iv_Narrow (sv a b : Value) (w : World) : (sInvoke (domV sv) "Narrow" [a, b]).run pr w = .ok (.enter n_ds_Narrow #[.agg #[sv], a, b]) w := by kernel_rfl
theorem iv_Tell (sv a : Value) (w : World) : (sInvoke (domV sv) "Tell" [a]).run pr w = .ok (.enter n_ds_Tell #[.agg #[sv], a]) w := by kernel_rfl
theorem nil_dom (sv : Value) (w : World) : (sNil (domV sv)).run pr w = .ok (.value (domV sv)) w := by kernel_rfl
def RI := And.intro (fun sv k => (oz_val (nil_dom sv) : oz pr (sNil (domV sv)) k = _)) <| And.intro (fun (E : PanicK) (w : World) (K : Value → World → Prop) sv => (o_val (nil_dom sv w) : o pr E w (sNil (domV sv)) K = _)) <| And.intro (fun (E : PanicK) (w : World) (K : Value → World → Prop) sv a => (o_enter (iv_Only sv a w) : o pr E w _ K = _)) <| And.intro (fun (E : PanicK) (w : World) (K : Value → World → Prop) sv => (o_enter (iv_Whole sv w) : o pr E w _ K = _)) <| And.intro (fun (E : PanicK) (w : World) (K : Value → World → Prop) sv a => (o_enter (iv_Minus sv a w) : o pr E w _ K = _)) <|
 And.intro (fun (E : PanicK) (w : World) (K : Value → World → Prop) sv a b c => (o_enter (iv_Two sv a b c w) : o pr E w _ K = _)) <| And.intro (fun (E : PanicK) (w : World) (K : Value → World → Prop) sv a b => (o_enter (iv_Join sv a b w) : o pr E w _ K = _)) <| And.intro (fun (E : PanicK) (w : World) (K : Value → World → Prop) sv a b => (o_enter (iv_Meet sv a b w) : o pr E w _ K = _)) <|
 And.intro (fun (E : PanicK) (w : World) (K : Value → World → Prop) sv a => (o_enter (iv_Zero sv a w) : o pr E w _ K = _)) <| And.intro (fun (E : PanicK) (w : World) (K : Value → World → Prop) sv a b c => (o_enter (iv_Bounds sv a b c w) : o pr E w _ K = _)) <| And.intro (fun (E : PanicK) (w : World) (K : Value → World → Prop) sv a b => (o_enter (iv_Widen sv a b w) : o pr E w _ K = _)) <|
 And.intro (fun (E : PanicK) (w : World) (K : Value → World → Prop) sv a b => (o_enter (iv_Narrow sv a b w) : o pr E w _ K = _)) (fun (E : PanicK) (w : World) (K : Value → World → Prop) sv a => (o_enter (iv_Tell sv a w) : o pr E w _ K = _))
def mixV (f : Span → Span → Span) (i : Nat) (xs ys : List Span) : List Span := (List.zipWith f xs ys).take i ++ xs.drop i
section
variable {f : Span → Span → Span} {xs ys : List Span} (hx : xs.length = 8) (hy : ys.length = 8)
theorem mix_0 : mixV f 0 xs ys = xs := rfl
include hx hy
theorem mix_8 : mixV f 8 xs ys = List.zipWith f xs ys := by
 unfold mixV; rw [List.take_of_length_le (by simp; omega), List.drop_of_length_le (by omega)]; simp
theorem mix_len {i : Nat} (_hi : i ≤ 8) : (mixV f i xs ys).length = 8 := by unfold mixV; simp; omega
theorem mix_get {i : Nat} (hi : i < 8) (d : Span) : (mixV f i xs ys).getD i d = xs.getD i d := by
 obtain ⟨x0, x1, x2, x3, x4, x5, x6, x7, rfl⟩ := len8 hx
 obtain ⟨y0, y1, y2, y3, y4, y5, y6, y7, rfl⟩ := len8 hy
 match i, hi with
 | 0, _ => rfl
 | 1, _ => rfl
 | 2, _ => rfl
 | 3, _ => rfl
 | 4, _ => rfl
 | 5, _ => rfl
 | 6, _ => rfl
 | 7, _ => rfl
theorem mix_set {i : Nat} (hi : i < 8) (d : Span) : (mixV f i xs ys).set i (f (xs.getD i d) (ys.getD i d)) = mixV f (i + 1) xs ys := by
 obtain ⟨x0, x1, x2, x3, x4, x5, x6, x7, rfl⟩ := len8 hx
 obtain ⟨y0, y1, y2, y3, y4, y5, y6, y7, rfl⟩ := len8 hy
 match i, hi with
 | 0, _ => rfl
 | 1, _ => rfl
 | 2, _ => rfl
 | 3, _ => rfl
 | 4, _ => rfl
 | 5, _ => rfl
 | 6, _ => rfl
 | 7, _ => rfl
end
end Go.Inv
namespace Go.Inv
open Go.Sh
def BoJ (w : World) (z : St Span) (_ : List Value) (w' : World) : Prop := Old w w' ∧ w'.heap[w.heap.size]? = some (.cells (sA z) tyState (0, 0)) ∧ w'.heap[w.heap.size + 2]? = some (.cells (sA n0) tyState (0, 0))
def BoI (w : World) (x y : St Span) (vs : List Value) (w' : World) : Prop := ∃ i : Nat, vs = [vi i] ∧ i ≤ 8 ∧ Old w w' ∧ w'.heap[w.heap.size]? = some (.cells (sA ⟨true, mixV (fun a b => hullV a.lo [a.hi, b.lo, b.hi]) i x.vars y.vars⟩) tyState (0, 0)) ∧
 w'.heap[w.heap.size + 1]? = some (.cells (sA y) tyState (0, 0)) ∧ w'.heap[w.heap.size + 2]? = some (.cells (sA n0) tyState (0, 0))
def CtM (vs : List Value) (_ : World) : Nat := match vs with
 | [.int _ n] => 8 - n.toNat
 | _ => 0
theorem both_ok' {C : SvC} {w : World} {a : AS Span} {q : Nat} {x y : St Span} (h : SvAt C w a q) (hx : InvS C.O x) (hy : InvS C.O y) :
 Calls pr n_sv_both #[pt C.s 0, stVl x, stVl y] w (Ret (stVl (bothA C.D x y)) w) := by
 refine sh_sv_both_ok _ _ _ _ _ ?_
 unfold sh_sv_both
 have lx := hx.len
 have ly := hy.len
 have l0 := n0_len
 obtain ⟨ls, lf, lb⟩ := h.ls
 simp only [↓RSs, ↓RT7, ↓RT, ↓RG, RV, Lm, Lc, Lw, eqA, eqB, eqC, Nat.reduceAdd, Nat.reduceEqDiff, ↓reduceIte]
 have ho : Old w (((w.alloc (.cells (sA x) 177)).alloc (.cells (sA y) 177)).alloc (.cells (sA n0) 177)) := by simp (maxDischargeDepth := 60) only [OLD, size_alloc, size_put]
 refine ⟨BoJ w (bothA C.D x y), ?_, ?_⟩
 ·rintro e1 w2 ⟨ho2, c4, c6⟩
  have lb := (show (bothA C.D x y).vars.length = 8 from (both_inv hx hy).len)
  simp only [↓RSs, ↓RT7, ↓RT, ↓RG, RV, Lm, Lc, Lw, c4, c6, stR lb, l0, eqA, eqB, eqC, Nat.reduceAdd, Nat.reduceEqDiff, ↓reduceIte]
  exact ⟨rfl, ho2.putL (by omega)⟩
 ·generalize hw1 : (((w.alloc (.cells (sA x) 177)).alloc (.cells (sA y) 177)).alloc (.cells (sA n0) 177)) = w1 at *
  have b4 : w1.heap[w.heap.size]? = some (.cells (sA x) 177 (0, 0)) := by
   rw [← hw1]; simp only [RV, Lm, Lc, eqA, eqB, eqC, Nat.reduceAdd, Nat.reduceEqDiff, ↓reduceIte]
  have b5 : w1.heap[w.heap.size + 1]? = some (.cells (sA y) 177 (0, 0)) := by
   rw [← hw1]; simp only [RV, Lm, Lc, eqA, eqB, eqC, Nat.reduceAdd, Nat.reduceEqDiff, ↓reduceIte]
  have b6 : w1.heap[w.heap.size + 2]? = some (.cells (sA n0) 177 (0, 0)) := by
   rw [← hw1]; simp only [RV, Lm, Lc, eqA, eqB, eqC, Nat.reduceAdd, Nat.reduceEqDiff, ↓reduceIte]
  try simp only [↓RSs, ↓RT7, ↓RT, ↓RG, RV, Lc, Lw, b4, b5, b6]
  cases hxs : x.some with
  | false =>
    have e : bothA C.D x y = y := by unfold bothA; rw [hxs]; rfl
    simp only [↓RSs, ↓RT7, ↓RT, ↓RG, RV, Lc, Lw, b4, b5, b6, stR ly, l0, Bool.not_false, Bool.and_self, ↓reduceIte]
    rw [e]
    exact ⟨rfl, ho.putL (by omega)⟩
  | true =>
    simp only [↓RSs, ↓RT7, ↓RT, ↓RG, RV, Lc, Lw, b4, b5, b6, Bool.not_true]
    cases hys : y.some with
    | false =>
      have e : bothA C.D x y = x := by unfold bothA; rw [hxs, hys]; rfl
      simp only [↓RSs, ↓RT7, ↓RT, ↓RG, RV, Lc, Lw]
      rw [e]
      exact ⟨ho, b4, b6⟩
    | true =>
      have e : bothA C.D x y = ⟨true, List.zipWith (fun a b => hullV a.lo [a.hi, b.lo, b.hi]) x.vars y.vars⟩ := by unfold bothA; rw [hxs, hys]; rfl
      have ex : x = ⟨true, x.vars⟩ := by rw [← hxs]
      simp only [↓RSs, ↓RT7, ↓RT, ↓RG, RV, Lc, Lw]
      refine ⟨BoI w x y, CtM, ⟨0, rfl, by omega, ho, by rw [mix_0, ← ex]; exact b4, b5, b6⟩, ?_⟩
      rintro e2 w2 ⟨i, he, hi, ho2, c4, c5, c6⟩
      have e14 : e2 14 = vi i := by simpa using he
      rw [e14]
      simp only [↓RSs, ↓RT7, ↓RT, ↓RG, RV, Lc, Lw]
      refine condJ (p := i < 8) (by simp only [decide_eq_decide]; omega) (fun h8 => ?_) (fun h8 => ?_)
      ·have hs2 := h.old ho2
       have lm : (⟨true, mixV (fun a b => hullV a.lo [a.hi, b.lo, b.hi]) i x.vars y.vars⟩ : St Span).vars.length = 8 := mix_len lx ly hi
       simp only [↓RI, ↓RSs, ↓RT7, ↓RT, ↓RG, RV, Lc, Lw, hs2.sol, c4, c5, c6, (rIAv _ _ h8).oz, varR lm h8, varR ly h8, mix_get lx ly h8]
       refine cl_of (ijoin_ok _ _ _ _) ?_
       rintro e w3 ⟨rfl, ho3⟩
       have ho3 := ho3.ofDr
       have d4 := ho3.heap c4
       simp only [endK, ↓RI, ↓RSs, ↓RT7, ↓RT, ↓RG, RV, Lc, Lw, d4, (rIAv _ _ h8).oz, varR lm h8, List.all_cons, List.all_nil]
       have ho3' := ho2.trans ho3
       refine ⟨⟨i + 1, ?_, by omega, ho3'.putL (by omega), ?_, ?_, ?_⟩, ?_⟩
       ·rw [wrap64 (by omega) (by omega)]; rfl
       ·simp only [Lw, d4, ↓reduceIte, varR lm h8, setSt, mix_set lx ly h8]
       ·rw [heap_putL_ne (by omega)]; exact ho3.heap c5
       ·rw [heap_putL_ne (by omega)]; exact ho3.heap c6
       ·rw [wrap64 (by omega) (by omega)]; simp only [CtM]; omega
      ·have : i = 8 := by omega
       subst this
       refine ⟨ho2, ?_, c6⟩
       rw [e, ← mix_8 lx ly]; exact c4
theorem el172 : elemT pr 172 = some 17 := by kernel_rfl
theorem rIAf (b n c i : Nat) (h : i < n) : Pur pr (sIA 172 (.slice (some ⟨b, 0, none⟩) n c) (vi i)) (pt b (i * 17)) := by
 have := pur_IAs (b := b) (off := 0) (n := n) (c := c) el172 (Int.natCast_nonneg i) (by omega : (i : Int) < n)
 simpa using this
theorem InvA.lens {steps : List Int} {P S : Nat} {a : AS Span} (h : InvA (spansOk steps) P S a) : ∀ x ∈ a.facts, x.vars.length = 8 := fun x hx => by
 obtain ⟨i, hi, rfl⟩ := List.getElem_of_mem hx
 have := (h.fi i).len
 rw [List.getD_eq_getElem?_getD, List.getElem?_eq_getElem hi] at this
 exact this
theorem SvAt.fact {C : SvC} (hC : C.Ok) {w : World} {a : AS Span} {q i : Nat} {y : St Span} (h : SvAt C w a q) (hl : ∀ x ∈ a.facts, x.vars.length = 8) (hi : i < a.facts.length) (hy : y.vars.length = 8) :
 SvAt C (putL w C.fb (i * 17) (sA y).toList) { a with facts := a.facts.set i y } q :=
 ⟨by rw [heap_putL_ne hC.sf]; exact h.sol, by rw [get_putL, if_pos rfl, h.fc]; exact row_fc spE hl hi hy, by rw [heap_putL_ne hC.fs.symm]; exact h.sc, int_putL hC hC.bf h.st⟩
theorem come_ok' {C : SvC} (hC : C.Ok) {w : World} {a : AS Span} {q p : Nat} {x : St Span} (h : SvAt C w a q) (ha : InvA C.O C.P C.S a) (hx : InvS C.O x) (hp : p < C.P) :
 Calls pr n_sv_come #[pt C.s 0, vi p, stVl x] w (SvP C w q (.tuple #[]) (comeA C.D (rcd q) p x a)) := by
 refine sh_sv_come_ok _ _ _ _ _ ?_
 unfold sh_sv_come
 have lx := hx.len
 obtain ⟨ls, lf, lb⟩ := h.ls
 have hl := ha.lens
 have hp' : p < a.facts.length := by rw [ha.fl]; exact hp
 simp only [↓RSs, ↓RT7, ↓RT, ↓RG, RV, agg_cells]
 have ho : Old w (w.alloc (.cells (sA x) 177)) := by simp (maxDischargeDepth := 60) only [OLD, size_alloc, size_put]
 have bx : (w.alloc (.cells (sA x) 177)).heap[w.heap.size]? = some (.cells (sA x) 177 (0, 0)) := heap_alloc_self _
 generalize w.alloc (.cells (sA x) 177) = w1 at *
 have h1 := h.old ho
 simp only [↓RSs, ↓RT7, ↓RT, ↓RG, RV, GE, Lc, Lw, bx, h1.sol]
 by_cases hq : q = 0
 ·subst hq
  have e : comeA C.D (rcd 0) p x a = { a with facts := a.facts.set p (bothA C.D (a.facts.getD p (noS C.D)) x) } := by unfold comeA; rfl
  rw [e]
  have d : ((((0 : Nat) : Int)) == 0) = true := rfl
  have l2 := (both_inv (ha.fi p) hx).len
  simp only [d, ↓RSs, ↓RT7, ↓RT, ↓RG, RV, GE, Lc, Lw, bx, h1.sol, (rIAf _ _ _ _ hp).oz, h1.fc, fc_get spE (noS C.D) hl hp', stR lx]
  refine cl_of (both_ok' (C := C) h1.dr (ha.fi p) hx) ?_
  rintro e w2 ⟨rfl, ho2⟩
  have ho2 := ho2.ofDr
  have h2 := h1.old ho2
  simp only [endK, ↓RSs, ↓RT7, ↓RT, ↓RG, RV, GE, Lc, Lw, h2.sol, (rIAf _ _ _ _ hp).oz, h2.fc, stR l2, fc_ok spE hl hp', Bool.and_self]
  refine ⟨rfl, ((ho.trans ho2).frS).putL (by omega), h2.fact hC hl hp' l2⟩
 ·have d : ((q : Int) == 0) = false := by simpa using hq
  have e : comeA C.D (rcd q) p x a = a := by unfold comeA; simp [hq]
  rw [e]
  simp only [d, ↓RSs, ↓RT7, ↓RT, ↓RG, RV]
  exact ⟨rfl, ho.frS, h1⟩
end Go.Inv
namespace Go.Inv
open Go.Sh
theorem arms {A B : Prop} (F : Nat → World → Prop) (G : Nat → World → Prop) (h : (∀ b w, F b w → G b w) → A ∧ B) (t : ∀ b w, F b w → G b w) : A ∧ B := h t
theorem FrS.keepS {C : SvC} {w w' : World} {a : AS Span} {q : Nat} (hf : FrS C w w') (h : SvAt C w a q) : KeepS w w' := fun c cs t ht hn => by
 refine hf.heap hn ?_ ?_ ?_
 ·rintro rfl; have := h.sol; rw [hn] at this; cases this; rcases ht with h | h | h | h <;> exact absurd h (by decide)
 ·rintro rfl; have := h.fc; rw [hn] at this; cases this; rcases ht with h | h | h | h <;> exact absurd h (by decide)
 ·rintro rfl; have := h.sc; rw [hn] at this; cases this; rcases ht with h | h | h | h <;> exact absurd h (by decide)
theorem rowSp (x y p q : Value) (t : Nat) (f : Nat × Nat) : Option.map (rowObj 0 [p, q]) (some (.cells #[x, y] t f)) = some (.cells #[p, q] t f) := rfl
abbrev spC (x : Span) : Obj := .cells #[vi x.lo, vi x.hi] tySpan (0, 0)
structure SumF (C : SvC) (w : World) (a : AS Span) (q : Nat) (at_ : St Span) (l : Span) (b : Nat) (w' : World) : Prop where
 fr : FrS C w w'
 sv : SvAt C w' a q
 b5 : w'.heap[w.heap.size]? = some (.cells (sA at_) tyState (0, 0))
 b6 : w'.heap[w.heap.size + 1]? = some (spC ⟨0, 0⟩)
 lo : w.heap.size + 2 ≤ b
 bl : w'.heap[b]? = some (spC l)
theorem SumF.put {C : SvC} (hC : C.Ok) {w w2 : World} {a : AS Span} {q b : Nat} {at_ : St Span} (l : Span) {x y : Value} (hf : FrS C w w2) (h : SvAt C w2 a q) (hw : C.s < w.heap.size ∧ C.fb < w.heap.size ∧ C.sb < w.heap.size) (b5 : w2.heap[w.heap.size]? = some (.cells (sA at_) tyState (0, 0)))
 (b6 : w2.heap[w.heap.size + 1]? = some (spC ⟨0, 0⟩)) (lo : w.heap.size + 2 ≤ b) (bl : w2.heap[b]? = some (.cells #[x, y] tySpan (0, 0))) : SumF C w a q at_ l b (Sh.putL w2 b 0 [vi l.lo, vi l.hi]) := by
 obtain ⟨l1, l2, l3⟩ := hw
 exact ⟨hf.putL (by omega), ⟨by rw [heap_putL_ne (by omega)]; exact h.sol, by rw [heap_putL_ne (by omega)]; exact h.fc, by rw [heap_putL_ne (by omega)]; exact h.sc, int_putL hC (by have := hC.bs; omega) h.st⟩, by rw [heap_putL_ne (by omega)]; exact b5, by rw [heap_putL_ne (by omega)]; exact b6, lo,
  by rw [get_putL, if_pos rfl, bl]; rfl⟩
theorem SumF.fresh {C : SvC} (hC : C.Ok) {w w2 : World} {a : AS Span} {q : Nat} {at_ : St Span} (l : Span) (hf : FrS C w w2) (h : SvAt C w2 a q) (hw : C.s < w.heap.size ∧ C.fb < w.heap.size ∧ C.sb < w.heap.size) (b5 : w2.heap[w.heap.size]? = some (.cells (sA at_) tyState (0, 0)))
 (b6 : w2.heap[w.heap.size + 1]? = some (spC ⟨0, 0⟩)) : SumF C w a q at_ l w2.heap.size (Sh.putL (w2.alloc (.cells #[vi 0, vi 0] tySpan)) w2.heap.size 0 [vi l.lo, vi l.hi]) := by
 have hl := lt_of_heap b6
 have ho := (Old.refl w2).alloc (.cells #[vi 0, vi 0] tySpan)
 exact SumF.put hC l (hf.trans ho.frS) (h.old ho) hw (ho.heap b5) (ho.heap b6) (by omega) (heap_alloc_self _)
def MinJ (C : SvC) (w : World) (a : AS Span) (q : Nat) (at_ : St Span) (l : Span) (ok : Bool) (vs : List Value) (w' : World) : Prop := ∃ b, vs = [pt b 0, .bool ok] ∧ SumF C w a q at_ l b w'
theorem two_no {D : Dom Span} {rec : Bool} {vars : List Span} {g : UInt8} {l r : Sum} {site : Int} {x : Span} {a a1 : AS Span} (h : sumA D rec vars l a = ((x, false), a1)) : sumA D rec vars (.two g l r site) a = ((x, false), a1) := by
 unfold sumA; rw [h]
theorem two_ny {D : Dom Span} {rec : Bool} {vars : List Span} {g : UInt8} {l r : Sum} {site : Int} {x y : Span} {a a1 a2 : AS Span} (h : sumA D rec vars l a = ((x, true), a1)) (h2 : sumA D rec vars r a1 = ((y, false), a2)) : sumA D rec vars (.two g l r site) a = ((y, false), a2) := by
 unfold sumA; rw [h]; simp only; rw [h2]
theorem two_yy {D : Dom Span} {rec : Bool} {vars : List Span} {g : UInt8} {l r : Sum} {site : Int} {x y : Span} {a a1 a2 : AS Span} (h : sumA D rec vars l a = ((x, true), a1)) (h2 : sumA D rec vars r a1 = ((y, true), a2)) : sumA D rec vars (.two g l r site) a = (D.two g x y, tellA rec site (D.zero y) a2) := by
 unfold sumA; rw [h]; simp only; rw [h2]
theorem sum_start (w : World) (x : St Span) : Old w ((w.alloc (.cells (sA x) 177)).alloc (.cells #[vi 0, vi 0] tySpan)) ∧
 ((w.alloc (.cells (sA x) 177)).alloc (.cells #[vi 0, vi 0] tySpan)).heap[w.heap.size]? = some (.cells (sA x) tyState (0, 0)) ∧
 ((w.alloc (.cells (sA x) 177)).alloc (.cells #[vi 0, vi 0] tySpan)).heap[w.heap.size + 1]? = some (spC ⟨0, 0⟩) ∧ w.heap.size + 1 + 1 = ((w.alloc (.cells (sA x) 177)).alloc (.cells #[vi 0, vi 0] tySpan)).heap.size := by
 refine ⟨by simp (maxDischargeDepth := 60) only [OLD, size_alloc, size_put], ?_, ?_, by rw [size_alloc, size_alloc]⟩
 ·rw [heap_alloc_ne (by rw [size_alloc]; omega)]; exact heap_alloc_self _
 ·have := heap_alloc_self (w := w.alloc (.cells (sA x) 177)) (.cells #[vi 0, vi 0] tySpan)
  rw [size_alloc] at this; exact this
theorem SvAt.loc {C : SvC} (hC : C.Ok) {w : World} {a : AS Span} {q k : Nat} (h : SvAt C w a q) (h1 : C.s < k) (h2 : C.fb < k) (h3 : C.sb < k) {i : Nat} {vs : List Value} : SvAt C (putL w k i vs) a q :=
 ⟨by rw [heap_putL_ne (by omega)]; exact h.sol, by rw [heap_putL_ne (by omega)]; exact h.fc, by rw [heap_putL_ne (by omega)]; exact h.sc, int_putL hC (by have := hC.bs; omega) h.st⟩
theorem node_keep {C : SvC} {w w' : World} {a : AS Span} {q b t : Nat} {cs : Array Value} (hf : FrS C w w') (h : SvAt C w a q) (hb : Node w b cs t) (ht : SumTy t) : w'.heap[b]? = some (.cells cs t (0, 0)) := hf.keepS h b cs t ht hb
theorem ssum_ok {C : SvC} (hC : C.Ok) {q : Nat} {at_ : St Span} (hv : InvV C.O at_.vars) : ∀ (x : Sum) (w : World) (v : Value) (a : AS Span), SumG C.S x → InvA C.O C.P C.S a → SvAt C w a q → SumAt w v x →
 Calls pr n_sv_sum #[pt C.s 0, v, stVl at_] w (SvP C w q (.tuple #[spV (sumA C.D (rcd q) at_.vars x a).1.1, .bool (sumA C.D (rcd q) at_.vars x a).1.2]) (sumA C.D (rcd q) at_.vars x a).2)
 | .num n, w, v, a, hg, ha, h, hx => by
   obtain ⟨b, rfl, hb⟩ := hx
   have hg : n ≤ 32767 := hg
   refine sh_sv_sum_ok _ _ _ _ _ ?_
   unfold sh_sv_sum
   obtain ⟨ls, lf, lb⟩ := h.ls
   obtain ⟨ho, b5, b6, hsz⟩ := sum_start w at_
   simp only [↓RI, ↓RSm, ↓RSs, ↓RT7, ↓RT, ↓RG, RV, agg_cells, size_alloc]
   generalize (w.alloc (.cells (sA at_) 177)).alloc (.cells #[vi 0, vi 0] tySpan) = w1 at *
   have h1 := h.old ho
   have nb := node_keep ho.frS h hb (.inl rfl)
   simp only [↓RI, ↓RSm, ↓RSs, ↓RT7, ↓RT, ↓RG, RV, h1.sol, nb]
   have hwr : IntKind.i64.wrap (n : Int) = n := wrap64 (by omega) (by omega)
   try simp only [hwr]
   refine cl_of (only_ok _ _ _) ?_
   rintro e w2 ⟨rfl, ho2⟩
   have ho2 := ho2.ofDr
   have c6 := ho2.heap b6
   simp only [endK, ↓RI, ↓RSm, ↓RSs, ↓RT7, ↓RT, ↓RG, RV, c6, Lc, Lw, rowSp, ↓reduceIte, List.all_cons, List.all_nil]
   have hf := (ho.trans ho2)
   exact ⟨rfl, (hf.putL (by omega)).frS, (h1.old ho2).loc hC (by omega) (by omega) (by omega)⟩
 | .name n, w, v, a, hg, ha, h, hx => by
   obtain ⟨b, rfl, hb⟩ := hx
   have hg : n < 8 := hg
   refine sh_sv_sum_ok _ _ _ _ _ ?_
   unfold sh_sv_sum
   obtain ⟨ls, lf, lb⟩ := h.ls
   obtain ⟨ho, b5, b6, hsz⟩ := sum_start w at_
   simp only [↓RI, ↓RSm, ↓RSs, ↓RT7, ↓RT, ↓RG, RV, agg_cells, size_alloc]
   generalize (w.alloc (.cells (sA at_) 177)).alloc (.cells #[vi 0, vi 0] tySpan) = w1 at *
   have h1 := h.old ho
   have nb := node_keep ho.frS h hb (.inr (.inl rfl))
   simp only [↓RI, ↓RSm, ↓RSs, ↓RT7, ↓RT, ↓RG, RV, h1.sol, nb, (rIAv _ _ hg).o, b5, b6, varR hv.1 hg, Lc, Lw, rowSp, ↓reduceIte, List.all_cons, List.all_nil]
   exact ⟨rfl, (ho.putL (by omega)).frS, h1.loc hC (by omega) (by omega) (by omega)⟩
 | .minus x, w, v, a, hg, ha, h, hx => by
   obtain ⟨b, u, rfl, hb, hu⟩ := hx
   refine sh_sv_sum_ok _ _ _ _ _ ?_
   unfold sh_sv_sum
   obtain ⟨ls, lf, lb⟩ := h.ls
   obtain ⟨ho, b5, b6, hsz⟩ := sum_start w at_
   simp only [↓RI, ↓RSm, ↓RSs, ↓RT7, ↓RT, ↓RG, RV, agg_cells, size_alloc]
   generalize (w.alloc (.cells (sA at_) 177)).alloc (.cells #[vi 0, vi 0] tySpan) = w1 at *
   have h1 := h.old ho
   have nb := node_keep ho.frS h hb (.inr (.inr (.inl rfl)))
   have hu1 := hu.keepS ((ho.frS (C := C)).keepS h)
   have IH := fun w' h' hu' => ssum_ok hC hv x w' u a hg ha (q := q) h' hu'
   have hi := (worth_ok (rec := rcd q) hv x a hg ha).inv
   generalize hr : sumA C.D (rcd q) at_.vars x a = r at IH hi
   obtain ⟨⟨l, ok⟩, a1⟩ := r
   have er : sumA C.D (rcd q) at_.vars (.minus x) a = ((if ok then C.D.minus l else l, ok), a1) := by unfold sumA; rw [hr]
   rw [er]
   refine ⟨MinJ C w a1 q at_ (if ok then C.D.minus l else l) ok, ?_, ?_⟩
   ·rintro e1 w2 ⟨b, he, hf⟩
    obtain ⟨e11, e12⟩ : e1 11 = pt b 0 ∧ e1 12 = .bool ok := by simpa using he
    rw [e11, e12]
    simp only [↓RI, ↓RSm, ↓RSs, ↓RT7, ↓RT, ↓RG, RV, hf.bl, hf.b6, Lc, Lw, rowSp, ↓reduceIte, List.all_cons, List.all_nil]
    exact ⟨rfl, hf.fr.putL (by omega), hf.sv.loc hC (by omega) (by omega) (by omega)⟩
   ·simp only [↓RI, ↓RSm, ↓RSs, ↓RT7, ↓RT, ↓RG, RV, nb, b5, stR hv.1, hsz]
    have hl := lt_of_heap b6
    apply arms (SumF C w a1 q at_ l)
    ·intro tail
     refine ⟨?_, ?_⟩
     ·refine cl_of (IH _ h1.dr (hu1.heq (w := w1) (w' := Sh.dr w1) rfl)) ?_
      rintro e w2 ⟨rfl, hf2, h2⟩
      have hf2 := hf2.ofDr
      have hS := SumF.fresh hC l (ho.frS.trans hf2) h2 h.ls (hf2.heap b5 (by omega) (by omega) (by omega)) (hf2.heap b6 (by omega) (by omega) (by omega))
      simp only [endK, ↓RI, ↓RSm, ↓RSs, ↓RT7, ↓RT, ↓RG, RV, heap_alloc_self (w := w2), Lc, List.all_cons, List.all_nil]
      generalize putL (w2.alloc (.cells #[vi 0, vi 0] tySpan)) w2.heap.size 0 [vi l.lo, vi l.hi] = w3 at hS ⊢
      generalize w2.heap.size = b3 at hS ⊢
      exact tail b3 w3 hS
     ·have ho2 := (Old.refl (Sh.dr w1)).alloc (.cells #[vi 0, vi 0] tySpan)
      have bl0 : ((Sh.dr w1).alloc (.cells #[vi 0, vi 0] tySpan)).heap[w1.heap.size]? = some (.cells #[vi 0, vi 0] tySpan) := heap_alloc_self (w := Sh.dr w1) _
      have nb' := ho2.heap (show (Sh.dr w1).heap[b]? = _ from nb)
      have b5' := ho2.heap (show (Sh.dr w1).heap[w.heap.size]? = _ from b5)
      have b6' := ho2.heap (show (Sh.dr w1).heap[w.heap.size + 1]? = _ from b6)
      simp only [endK, ↓RI, ↓RSm, ↓RSs, ↓RT7, ↓RT, ↓RG, RV, nb', b5', stR hv.1]
      refine cl_of (IH _ (h1.dr.old ho2) ((hu1.heq (w := w1) (w' := Sh.dr w1) rfl).keepS (ho2.frS (C := C) |>.keepS h1.dr))) ?_
      rintro e w2 ⟨rfl, hf2, h2⟩
      have hf2' := ((ho2.frS (C := C)).trans hf2).ofDr
      have bl := hf2.heap bl0 (by omega) (by omega) (by omega)
      have hS := SumF.put hC l (ho.frS.trans hf2') h2 h.ls (hf2.heap b5' (by omega) (by omega) (by omega)) (hf2.heap b6' (by omega) (by omega) (by omega)) (by omega) bl
      simp only [endK, ↓RI, ↓RSm, ↓RSs, ↓RT7, ↓RT, ↓RG, RV, bl, Lc, List.all_cons, List.all_nil]
      exact tail _ _ hS
    ·intro b3 w3 hS
     cases ok with
     | false =>
       simp only [↓RI, ↓RSm, ↓RSs, ↓RT7, ↓RT, ↓RG, RV]
       exact ⟨b3, rfl, hS⟩
     | true =>
       simp only [↓RI, ↓RSm, ↓RSs, ↓RT7, ↓RT, ↓RG, RV, hS.sv.sol, hS.bl, Lc]
       refine cl_of (iminus_ok _ (hi rfl) _) ?_
       rintro e w4 ⟨rfl, ho4⟩
       have ho4 := ho4.ofDr
       have bl := ho4.heap hS.bl
       simp only [endK, ↓RI, ↓RSm, ↓RSs, ↓RT7, ↓RT, ↓RG, RV, bl, Lm, Lc, Lw, ↓reduceIte, List.all_cons, List.all_nil]
       exact ⟨b3, rfl, SumF.put hC _ (hS.fr.trans ho4.frS) (hS.sv.old ho4) h.ls (ho4.heap hS.b5) (ho4.heap hS.b6) hS.lo bl⟩
 | .two g l r site, w, v, a, hg, ha, h, hx => by
   obtain ⟨b, u1, u2, rfl, hb, hu1, hu2⟩ := hx
   obtain ⟨hsg, hgl, hgr, hsi⟩ := hg
   have hsite : site < C.S := by split at hsi <;> omega
   refine sh_sv_sum_ok _ _ _ _ _ ?_
   unfold sh_sv_sum
   obtain ⟨ls, lf, lb⟩ := h.ls
   obtain ⟨ho, b5, b6, hsz⟩ := sum_start w at_
   simp only [↓RI, ↓RSm, ↓RSs, ↓RT7, ↓RT, ↓RG, RV, agg_cells, size_alloc]
   generalize (w.alloc (.cells (sA at_) 177)).alloc (.cells #[vi 0, vi 0] tySpan) = w1 at *
   have h1 := h.old ho
   have nb := node_keep ho.frS h hb (.inr (.inr (.inr rfl)))
   have nbF : ∀ w', FrS C w w' → w'.heap[b]? = some (.cells #[.int .u8 g.toNat, u1, u2, vi site] tyTwo (0, 0)) := fun w' hf => node_keep hf h hb (.inr (.inr (.inr rfl)))
   have uF1 : ∀ w', FrS C w w' → SumAt w' u1 l := fun w' hf => hu1.keepS (hf.keepS h)
   have uF2 : ∀ w', FrS C w w' → SumAt w' u2 r := fun w' hf => hu2.keepS (hf.keepS h)
   have IH := fun w' h' hu' => ssum_ok hC hv l w' u1 a hgl ha (q := q) h' hu'
   have hi := worth_ok (rec := rcd q) hv l a hgl ha
   generalize hr : sumA C.D (rcd q) at_.vars l a = r1 at IH hi
   obtain ⟨⟨x, ok⟩, a1⟩ := r1
   have hl := lt_of_heap b6
   simp only [↓RI, ↓RSm, ↓RSs, ↓RT7, ↓RT, ↓RG, RV, nb, b5, stR hv.1, hsz]
   apply arms (SumF C w a1 q at_ x)
   ·intro tail
    refine ⟨?_, ?_⟩
    ·refine cl_of (IH _ h1.dr (uF1 _ ho.frS.dr)) ?_
     rintro e w2 ⟨rfl, hf2, h2⟩
     have hf2 := hf2.ofDr
     have hS := SumF.fresh hC x (ho.frS.trans hf2) h2 h.ls (hf2.heap b5 (by omega) (by omega) (by omega)) (hf2.heap b6 (by omega) (by omega) (by omega))
     simp only [endK, ↓RI, ↓RSm, ↓RSs, ↓RT7, ↓RT, ↓RG, RV, heap_alloc_self (w := w2), Lc, List.all_cons, List.all_nil]
     generalize putL (w2.alloc (.cells #[vi 0, vi 0] tySpan)) w2.heap.size 0 [vi x.lo, vi x.hi] = w3 at hS ⊢
     generalize w2.heap.size = b3 at hS ⊢
     exact tail b3 w3 hS
    ·have ho2 := (Old.refl (Sh.dr w1)).alloc (.cells #[vi 0, vi 0] tySpan)
     have hf1 := ho.frS.dr.trans (ho2.frS (C := C))
     have bl0 : ((Sh.dr w1).alloc (.cells #[vi 0, vi 0] tySpan)).heap[w1.heap.size]? = some (.cells #[vi 0, vi 0] tySpan) := heap_alloc_self (w := Sh.dr w1) _
     have nb' := nbF _ hf1
     have b5' := ho2.heap (show (Sh.dr w1).heap[w.heap.size]? = _ from b5)
     have b6' := ho2.heap (show (Sh.dr w1).heap[w.heap.size + 1]? = _ from b6)
     simp only [endK, ↓RI, ↓RSm, ↓RSs, ↓RT7, ↓RT, ↓RG, RV, nb', b5', stR hv.1]
     refine cl_of (IH _ (h1.dr.old ho2) (uF1 _ hf1)) ?_
     rintro e w2 ⟨rfl, hf2, h2⟩
     have bl := hf2.heap bl0 (by omega) (by omega) (by omega)
     have hS := SumF.put hC x (hf1.trans hf2) h2 h.ls (hf2.heap b5' (by omega) (by omega) (by omega)) (hf2.heap b6' (by omega) (by omega) (by omega)) (by omega) bl
     simp only [endK, ↓RI, ↓RSm, ↓RSs, ↓RT7, ↓RT, ↓RG, RV, bl, Lc, List.all_cons, List.all_nil]
     exact tail _ _ hS
   ·intro b3 w3 hS
    have h3 := hS.sv
    cases ok with
    | false =>
      rw [two_no hr]
      simp only [↓RI, ↓RSm, ↓RSs, ↓RT7, ↓RT, ↓RG, RV, Bool.not_false, hS.bl, hS.b6, Lc, Lw, rowSp, ↓reduceIte, List.all_cons, List.all_nil]
      exact ⟨rfl, hS.fr.putL (by omega), h3.loc hC (by omega) (by omega) (by omega)⟩
    | true =>
      have nb3 := nbF _ hS.fr
      have hx := hi.inv rfl
      have ha1 := hi.invA
      have IH := fun w' h' hu' => ssum_ok hC hv r w' u2 a1 hgr ha1 (q := q) h' hu'
      have hi := worth_ok (rec := rcd q) hv r a1 hgr ha1
      generalize hr2 : sumA C.D (rcd q) at_.vars r a1 = r2 at IH hi
      obtain ⟨⟨y, ok⟩, a2⟩ := r2
      have hl3 := lt_of_heap hS.bl
      have hlo := hS.lo
      simp only [↓RI, ↓RSm, ↓RSs, ↓RT7, ↓RT, ↓RG, RV, Bool.not_true, nb3, hS.b5, stR hv.1]
      apply arms (fun b w' => SumF C w a2 q at_ y b w' ∧ b3 < b ∧ w'.heap[b3]? = some (spC x))
      ·intro tail
       refine ⟨?_, ?_⟩
       ·refine cl_of (IH _ h3.dr (uF2 _ hS.fr.dr)) ?_
        rintro e w4 ⟨rfl, hf4, h4⟩
        have hf4 := hf4.ofDr
        have hl4 := hf4.size
        have hS4 := SumF.fresh hC y (hS.fr.trans hf4) h4 h.ls (hf4.heap hS.b5 (by omega) (by omega) (by omega)) (hf4.heap hS.b6 (by omega) (by omega) (by omega))
        have bx := ((Old.refl w4).alloc (.cells #[vi 0, vi 0] tySpan)).heap (hf4.heap hS.bl (by omega) (by omega) (by omega))
        have bx4 : (putL (w4.alloc (.cells #[vi 0, vi 0] tySpan)) w4.heap.size 0 [vi y.lo, vi y.hi]).heap[b3]? = some (spC x) := by rw [heap_putL_ne (by omega)]; exact bx
        have hlt : b3 < w4.heap.size := by omega
        simp only [endK, ↓RI, ↓RSm, ↓RSs, ↓RT7, ↓RT, ↓RG, RV, heap_alloc_self (w := w4), Lc, List.all_cons, List.all_nil]
        generalize putL (w4.alloc (.cells #[vi 0, vi 0] tySpan)) w4.heap.size 0 [vi y.lo, vi y.hi] = w5 at hS4 bx4 ⊢
        generalize w4.heap.size = b4 at hS4 hlt ⊢
        exact tail b4 w5 ⟨hS4, hlt, bx4⟩
       ·have ho4 := (Old.refl (Sh.dr w3)).alloc (.cells #[vi 0, vi 0] tySpan)
        have hf1 := hS.fr.dr.trans (ho4.frS (C := C))
        have bl0 : ((Sh.dr w3).alloc (.cells #[vi 0, vi 0] tySpan)).heap[w3.heap.size]? = some (.cells #[vi 0, vi 0] tySpan) := heap_alloc_self (w := Sh.dr w3) _
        have nb' := nbF _ hf1
        have b5' := ho4.heap (show (Sh.dr w3).heap[w.heap.size]? = _ from hS.b5)
        have b6' := ho4.heap (show (Sh.dr w3).heap[w.heap.size + 1]? = _ from hS.b6)
        have bx' := ho4.heap (show (Sh.dr w3).heap[b3]? = _ from hS.bl)
        simp only [endK, ↓RI, ↓RSm, ↓RSs, ↓RT7, ↓RT, ↓RG, RV, nb', b5', stR hv.1]
        refine cl_of (IH _ (h3.dr.old ho4) (uF2 _ hf1)) ?_
        rintro e w4 ⟨rfl, hf4, h4⟩
        have bl := hf4.heap bl0 (by omega) (by omega) (by omega)
        have hS4 := SumF.put hC y (hf1.trans hf4) h4 h.ls (hf4.heap b5' (by omega) (by omega) (by omega)) (hf4.heap b6' (by omega) (by omega) (by omega)) (by omega) bl
        have bx4 : (putL w4 w3.heap.size 0 [vi y.lo, vi y.hi]).heap[b3]? = some (spC x) := by rw [heap_putL_ne (by omega)]; exact hf4.heap bx' (by omega) (by omega) (by omega)
        simp only [endK, ↓RI, ↓RSm, ↓RSs, ↓RT7, ↓RT, ↓RG, RV, bl, Lc, List.all_cons, List.all_nil]
        exact tail _ _ ⟨hS4, hl3, bx4⟩
      ·rintro b4 w4 ⟨hS4, hlt, bx⟩
       have h4 := hS4.sv
       cases ok with
       | false =>
         rw [two_ny hr hr2]
         simp only [↓RI, ↓RSm, ↓RSs, ↓RT7, ↓RT, ↓RG, RV, Bool.not_false, hS4.bl, hS4.b6, Lc, Lw, rowSp, ↓reduceIte, List.all_cons, List.all_nil]
         exact ⟨rfl, hS4.fr.putL (by omega), h4.loc hC (by omega) (by omega) (by omega)⟩
       | true =>
         rw [two_yy hr hr2]
         have hy := hi.inv rfl
         have nb4 := nbF _ hS4.fr
         simp only [↓RI, ↓RSm, ↓RSs, ↓RT7, ↓RT, ↓RG, RV, Bool.not_true, nb4, h4.sol, hS4.bl, Lc]
         refine cl_of (izero_ok _ _ _) ?_
         rintro e w5 ⟨rfl, ho5⟩
         have ho5 := ho5.ofDr
         have h5 := h4.old ho5
         have hf5 := hS4.fr.trans (ho5.frS (C := C))
         have nb5 := nbF _ hf5
         have hl4 := lt_of_heap hS4.bl
         simp only [endK, ↓RI, ↓RSm, ↓RSs, ↓RT7, ↓RT, ↓RG, RV, nb5, Lc]
         refine cl_of (tell_ok hC h5 hi.invA.sl hsite) ?_
         rintro e w6 ⟨rfl, hf6, h6⟩
         have nb6 := nbF _ (hf5.trans hf6)
         have c3 := hf6.heap (ho5.heap bx) (by omega) (by omega) (by omega)
         have c4 := hf6.heap (ho5.heap hS4.bl) (by omega) (by omega) (by omega)
         have c6 := hf6.heap (ho5.heap hS4.b6) (by omega) (by omega) (by omega)
         simp only [endK, ↓RI, ↓RSm, ↓RSs, ↓RT7, ↓RT, ↓RG, RV, nb6, h6.sol, c3, c4, Lc]
         refine cl_of (itwo_ok _ hsg hx hy _) ?_
         rintro e w7 ⟨rfl, ho7⟩
         have ho7 := ho7.ofDr
         have d6 := ho7.heap c6
         simp only [endK, ↓RI, ↓RSm, ↓RSs, ↓RT7, ↓RT, ↓RG, RV, d6, Lc, Lw, rowSp, ↓reduceIte, List.all_cons, List.all_nil]
         have hf7 := (hf5.trans hf6).trans (ho7.frS (C := C))
         exact ⟨rfl, hf7.putL (by omega), (h6.old ho7).loc hC (by omega) (by omega) (by omega)⟩
end Go.Inv
namespace Go.Inv
open Go.Sh
abbrev tySide : Nat := 247
theorem arms2 {A : Prop} (F : Nat → Nat → World → Prop) (G : Nat → Nat → World → Prop) (h : (∀ b c w, F b c w → G b c w) → A) (t : ∀ b c w, F b c w → G b c w) : A := h t
theorem okRow_putL (b i c j n : Nat) : ∀ (vs : List Value) (w : World), okRow ((putL w b i vs).heap[c]?) j n = okRow (w.heap[c]?) j n := fun vs w => by
 rw [get_putL]
 split
 ·rename_i h; subst h
  cases w.heap[c]? with
  | none => rfl
  | some x =>
    cases x with
    | cells cs t f =>
      have hs : ∀ (vs : List Value) (i : Nat) (cs : Array Value), (setR cs i vs).size = cs.size := fun vs => by
       induction vs with
       | nil => intro i cs; rfl
       | cons v vs ih => intro i cs; rw [setR, ih]; simp
      simp only [Option.map_some, rowObj, okRow, hs]
    | _ => rfl
 ·rfl
theorem al_335 (w : World) : (sAlloc 247).run pr w = .ok (.value (pt w.heap.size 0)) (w.alloc (.cells #[.nilIface, vi 0, vi 0] tySide)) := by kernel_rfl
theorem rAl335 : ∀ E w K, o pr E w (sAlloc 247) K = K (pt w.heap.size 0) (w.alloc (.cells #[.nilIface, vi 0, vi 0] tySide)) := fun _ w _ => o_val (al_335 w)
theorem bd_335 (t : Nat) (u : Value) (a b : Int) (w : World) : (sBuild 247 [(0, .iface t u), (1, spV ⟨a, b⟩)]).run pr w = .ok (.value (.agg #[.iface t u, vi a, vi b])) w := by kernel_rfl
theorem rBd335 : ∀ E w K t u (x : Span), o pr E w (sBuild 247 [(0, .iface t u), (1, spV x)]) K = K (.agg #[.iface t u, vi x.lo, vi x.hi]) w := fun _ w _ t u x => o_val (bd_335 t u x.lo x.hi w)
theorem bs_336 (t t' : Nat) (u u' : Value) (a b a' b' : Int) (w : World) : (sBuildSlice 248 2 [(0, .agg #[.iface t u, vi a, vi b]), (1, .agg #[.iface t' u', vi a', vi b'])]).run pr w =
 .ok (.value (.slice (some ⟨w.heap.size, 0, none⟩) 2 2)) (w.alloc (.cells #[.iface t u, vi a, vi b, .iface t' u', vi a', vi b'] tySide)) := by kernel_rfl
theorem rBs336 : ∀ E w K t u t' u' a b a' b', o pr E w (sBuildSlice 248 2 [(0, .agg #[.iface t u, vi a, vi b]), (1, .agg #[.iface t' u', vi a', vi b'])]) K =
 K (.slice (some ⟨w.heap.size, 0, none⟩) 2 2) (w.alloc (.cells #[.iface t u, vi a, vi b, .iface t' u', vi a', vi b'] tySide)) := fun _ w _ t u t' u' a b a' b' => o_val (bs_336 t t' u u' a b a' b' w)
theorem el248 : elemT pr 248 = some 3 := by kernel_rfl
def RB := And.intro rAl335 <| And.intro rBd335 rBs336
theorem mid3 (x y z : Value) (t : Nat) (f : Nat × Nat) : blkRow (some (.cells #[x, y, z] t f)) 1 2 = some (.agg #[y, z]) := rfl
section
variable (C : SvC) (c : Cond) (at_ : St Span) (A B : Span)
def sdS (k : Nat) : Sum := if k = 0 then c.l else c.r
def sdV (k : Nat) : Span := if k = 0 then A else B
def sdX : Nat → St Span
 | 0 => at_
 | k + 1 => sideA C.D (sdS c k) (sdV A B k) (sdX k)
end
theorem behind_x {C : SvC} {c : Cond} {at_ : St Span} {A B l r : Span} {rel : Nat} (hb : C.D.bounds l rel r = (A, B, true, true)) : behindA C.D c l r at_ rel = if (sdX C c at_ A B 1).some then sdX C c at_ A B 2 else noS C.D := by
 unfold behindA; rw [hb]
 have e1 : sdX C c at_ A B 1 = sideA C.D c.l A at_ := rfl
 have e2 : sdX C c at_ A B 2 = sideA C.D c.r B (sideA C.D c.l A at_) := rfl
 rw [e1, e2]
 simp only
 cases h : sideA C.D c.l A at_ with
 | mk s vs => cases s <;> simp
end Go.Inv
