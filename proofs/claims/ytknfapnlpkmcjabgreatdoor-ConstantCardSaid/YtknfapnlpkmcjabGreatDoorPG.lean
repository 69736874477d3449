/- A part of the proofs of the cards of this seat: whatever the input, each law returns true and leaves its arguments as they were. No condition. -/
import Derived.Test.YtknfapnlpkmcjabGreatDoorPE
import Derived.Test.YtknfapnlpkmcjabGreatDoorPA
import Derived.Test.YtknfapnlpkmcjabGreatDoorPB
import Derived.Test.YtknfapnlpkmcjabGreatDoorPF
import Derived.ChangeKeysEq
set_option linter.all false
set_option maxRecDepth 100000
set_option maxHeartbeats 32000000
namespace Go.Inv.Iv
open Go.Sh
theorem fo26_3 : fieldOff pr 26 3 = some 3 := by kernel_rfl
theorem fo26_2 : fieldOff pr 26 2 = some 2 := by kernel_rfl
theorem fo26_1 : fieldOff pr 26 1 = some 1 := by kernel_rfl
structure SvN where
 v : Nat
 tp : Nat
 ts : Nat
 tr : Nat
 so : Nat
 ar : Nat
 st : Nat
 sd : Nat
 sr : Nat
 f_both : Nat
 f_come : Nat
 f_list : Nat
 f_loop : Nat
 f_round : Nat
 f_split : Nat
 f_split_1 : Nat
 f_sum : Nat
 f_tell : Nat
def sv_both (N : SvN) (K : Value → World → Prop) (E : PanicK) (a0 a1 a2 : Value) (w : World) : Prop :=
 o pr E w (sBox N.st a1) fun t4 w =>
 o pr E w (sBox N.st a2) fun t5 w =>
 o pr E w (sAlloc N.st) fun t6 w =>
 ∃ j1 : List Value → World → Prop, (∀ (e1 : Nat → Value) w, j1 [] w →
 o pr E w (sLoad N.st t4) fun t36 w =>
 o pr E w (sStore N.st t6 t36) fun _ w =>
 rs pr w t6 N.st fun v0_0 =>
 K v0_0 w) ∧
 o pr E w (sFA N.st t4 0) fun t8 w =>
 o pr E w (sLoad 4 t8) fun t9 w =>
 o pr E w (sUn .not 4 t9) fun t10 w =>
 condP t10 (o pr E w (sLoad N.st t5) fun t11 w =>
 o pr E w (sStore N.st t6 t11) fun _ w =>
 rs pr w t6 N.st fun v0_1 =>
 K v0_1 w)
  (o pr E w (sFA N.st t5 0) fun t12 w =>
 o pr E w (sLoad 4 t12) fun t13 w =>
 condP t13 (∃ (I2 : List Value → World → Prop) (m2 : List Value → World → Nat), I2 [(Value.int IntKind.i64 0)] w ∧
 ∀ (e2 : Nat → Value) w2, I2 [e2 14] w2 → (fun w =>
 o pr E w (sBinC .lss 3 (e2 14) (Value.int IntKind.i64 8) 3) fun t15 w =>
 condP t15 ((fun w =>
 oz pr (sNil a0) fun t19 =>
 oz pr (sFA N.so t19 0) fun t20 =>
 oa pr w (sLoad N.tp t20) fun t21 =>
 oz pr (sFA N.st t4 1) fun t23 =>
 oz pr (sIA N.ar t23 (e2 14)) fun t24 =>
 oa pr w (sLoad N.v t24) fun t25 =>
 oz pr (sFA N.st t5 1) fun t27 =>
 oz pr (sIA N.ar t27 (e2 14)) fun t28 =>
 oa pr w (sLoad N.v t28) fun t29 =>
 oz pr (sNil t21) fun _ =>
 oz pr (sFA N.st t4 1) fun t33 =>
 o pr E w (sInvoke t21 "Join" [t25, t29]) fun t32 w =>
 oz pr (sIA N.ar t33 (e2 14)) fun t34 =>
 o pr E w (sStore N.v t34 t32) fun _ w =>
 o pr E w (sBinC .add 3 (e2 14) (Value.int IntKind.i64 1) 3) fun t35 w =>
 I2 [t35] w ∧ m2 [t35] w < m2 [e2 14] w2) (dr w))
  (j1 [] w)) w2)
  (j1 [] w))
def sv_come (N : SvN) (K : Value → World → Prop) (E : PanicK) (a0 a1 a2 : Value) (w : World) : Prop :=
 o pr E w (sBox N.st a2) fun t5 w =>
 o pr E w (sNil a0) fun t7 w =>
 o pr E w (sFA N.so t7 4) fun t8 w =>
 o pr E w (sLoad 3 t8) fun t9 w =>
 o pr E w (sBinC .eql 3 t9 (Value.int IntKind.i64 0) 3) fun t10 w =>
 condP t10 ((fun w =>
 oz pr (sNil a0) fun t12 =>
 oz pr (sFA N.so t12 2) fun t13 =>
 oa pr w (sLoad N.tr t13) fun t14 =>
 oz pr (sNil a0) fun t18 =>
 oz pr (sFA N.so t18 2) fun t19 =>
 oa pr w (sLoad N.tr t19) fun t20 =>
 oz pr (sIA N.tr t20 a1) fun t22 =>
 oa pr w (sLoad N.st t22) fun t23 =>
 oa pr w (sLoad N.st t5) fun t24 =>
 cl pr E w N.f_both #[a0, t23, t24] fun t25 w =>
 rk pr w (sLoad N.tr t13) t14 ∧
 oz pr (sIA N.tr t14 a1) fun t26 =>
 o pr E w (sStore N.st t26 t25) fun _ w =>
 K (.tuple #[]) w) (dr w))
  (K (.tuple #[]) w)
def ct_list_1 (N : SvN) (E : PanicK) (e1 : Nat → Value) (t1 : Value) (I1 : List Value → World → Prop) (m1 : List Value → World → Nat) (w1 : World) (a1 : Value) (t12 : Value) (a0 : Value) (j3 : List Value → World → Prop) (t138 : Value) : World → Prop :=
 (fun w =>
 o pr E w (sBin .lss 3 (e1 24) t1 3) fun t2 w =>
 ∃ j1 : List Value → World → Prop, (∀ (e2 : Nat → Value) w, j1 [] w →
 o pr E w (sBinC .add 3 (e1 24) (Value.int IntKind.i64 1) 3) fun t3 w =>
 I1 [t3] w ∧ m1 [t3] w < m1 [e1 24] w1) ∧
 condP t2 (o pr E w (sIA 83 a1 (e1 24)) fun t4 w =>
 o pr E w (sLoad 135 t4) fun t5 w =>
 ∃ j2 : List Value → World → Prop, (∀ (e3 : Nat → Value) w, j2 [] w →
 o pr E w (sAssert t5 135 136 true) fun t6 w =>
 o pr E w (sExt t6 1) fun t7 w =>
 o pr E w (sExt t6 0) fun t8 w =>
 condP t7 ((fun w =>
 (fun (k1 : Value → Value → World → Prop) =>
 oz pr (sNil t8) fun t9 =>
 oz pr (sFA 140 t9 2) fun t10 =>
 oa pr w (sLoad 138 t10) fun t11 =>
 oa pr w (sLoad N.st t12) fun t13 =>
 (cl pr E w N.f_sum #[a0, t11, t13] fun t14 w =>
 oz pr (sExt t14 0) fun t15 =>
 oz pr (sExt t14 1) fun t16 =>
 o pr E w (sAlloc N.v) fun t17 w =>
 o pr E w (sStore N.v t17 t15) fun _ w =>
 k1 t17 t16 w) ∧
 (o pr E w (sAlloc N.v) fun t18 w =>
 rk pr w (sLoad N.st t12) t13 ∧
 rk pr w (sLoad 138 t10) t11 ∧
 cl pr E w N.f_sum #[a0, t11, t13] fun t19 w =>
 oz pr (sExt t19 0) fun t20 =>
 oz pr (sExt t19 1) fun t21 =>
 o pr E w (sStore N.v t18 t20) fun _ w =>
 k1 t18 t21 w))
 (fun t22 t23 w =>
 (fun w =>
 oz pr (sNil t8) fun t24 =>
 oz pr (sFA 140 t24 1) fun t25 =>
 oa pr w (sLoad 3 t25) fun t26 =>
 oa pr w (sLoad N.v t22) fun t27 =>
 oz pr (sFA N.st t12 1) fun t28 =>
 oz pr (sIA N.ar t28 t26) fun t29 =>
 o pr E w (sStore N.v t29 t27) fun _ w =>
 o pr E w (sUn .not 4 t23) fun t30 w =>
 condP t30 (o pr E w (sBuild N.st []) fun t31 w =>
 o pr E w (sStore N.st t12 t31) fun _ w =>
 j1 [] w)
  (j1 [] w)) (dr w))) (dr w))
  (o pr E w (sAssert t5 135 144 true) fun t32 w =>
 o pr E w (sExt t32 1) fun t33 w =>
 o pr E w (sExt t32 0) fun t34 w =>
 condP t33 ((fun w =>
 oz pr (sNil t34) fun t35 =>
 oz pr (sFA 146 t35 1) fun t36 =>
 oa pr w (sLoad 3 t36) fun t37 =>
 oz pr (sNil a0) fun t38 =>
 oz pr (sFA N.so t38 0) fun t39 =>
 oa pr w (sLoad N.tp t39) fun t40 =>
 oz pr (sFA N.st t12 1) fun t41 =>
 o pr E w (sInvoke t40 "Whole" []) fun t42 w =>
 rk pr w (sLoad 3 t36) t37 ∧
 oz pr (sIA N.ar t41 t37) fun t43 =>
 o pr E w (sStore N.v t43 t42) fun _ w =>
 j1 [] w) (dr w))
  (o pr E w (sAssert t5 135 147 true) fun t44 w =>
 o pr E w (sExt t44 1) fun t45 w =>
 o pr E w (sExt t44 0) fun t46 w =>
 condP t45 ((fun w =>
 (fun (k2 : Value → Value → World → Prop) =>
 oz pr (sNil t46) fun t47 =>
 oz pr (sFA 153 t47 1) fun t48 =>
 oa pr w (sLoad 151 t48) fun t49 =>
 oa pr w (sLoad N.st t12) fun t50 =>
 (cl pr E w N.f_split #[a0, t49, t50] fun t51 w =>
 oz pr (sExt t51 0) fun t52 =>
 oz pr (sExt t51 1) fun t53 =>
 (o pr E w (sAlloc N.st) fun t54 w =>
 o pr E w (sAlloc N.st) fun t55 w =>
 o pr E w (sStore N.st t54 t52) fun _ w =>
 o pr E w (sStore N.st t55 t53) fun _ w =>
 k2 t54 t55 w) ∧
 (o pr E w (sAlloc N.st) fun t56 w =>
 o pr E w (sAlloc N.st) fun t57 w =>
 o pr E w (sStore N.st t57 t52) fun _ w =>
 o pr E w (sStore N.st t56 t53) fun _ w =>
 k2 t57 t56 w)) ∧
 (o pr E w (sAlloc N.st) fun t58 w =>
 rk pr w (sLoad N.st t12) t50 ∧
 rk pr w (sLoad 151 t48) t49 ∧
 (cl pr E w N.f_split #[a0, t49, t50] fun t59 w =>
 oz pr (sExt t59 0) fun t60 =>
 oz pr (sExt t59 1) fun t61 =>
 o pr E w (sAlloc N.st) fun t62 w =>
 o pr E w (sStore N.st t58 t60) fun _ w =>
 o pr E w (sStore N.st t62 t61) fun _ w =>
 k2 t58 t62 w) ∧
 (o pr E w (sAlloc N.st) fun t63 w =>
 rk pr w (sLoad N.st t12) t50 ∧
 rk pr w (sLoad 151 t48) t49 ∧
 cl pr E w N.f_split #[a0, t49, t50] fun t64 w =>
 oz pr (sExt t64 0) fun t65 =>
 oz pr (sExt t64 1) fun t66 =>
 o pr E w (sStore N.st t58 t65) fun _ w =>
 o pr E w (sStore N.st t63 t66) fun _ w =>
 k2 t58 t63 w)) ∧
 (o pr E w (sAlloc N.st) fun t67 w =>
 rk pr w (sLoad N.st t12) t50 ∧
 rk pr w (sLoad 151 t48) t49 ∧
 (cl pr E w N.f_split #[a0, t49, t50] fun t68 w =>
 oz pr (sExt t68 0) fun t69 =>
 oz pr (sExt t68 1) fun t70 =>
 o pr E w (sAlloc N.st) fun t71 w =>
 o pr E w (sStore N.st t71 t69) fun _ w =>
 o pr E w (sStore N.st t67 t70) fun _ w =>
 k2 t71 t67 w) ∧
 (o pr E w (sAlloc N.st) fun t72 w =>
 rk pr w (sLoad N.st t12) t50 ∧
 rk pr w (sLoad 151 t48) t49 ∧
 cl pr E w N.f_split #[a0, t49, t50] fun t73 w =>
 oz pr (sExt t73 0) fun t74 =>
 oz pr (sExt t73 1) fun t75 =>
 o pr E w (sStore N.st t72 t74) fun _ w =>
 o pr E w (sStore N.st t67 t75) fun _ w =>
 k2 t72 t67 w)))
 (fun t76 t77 w =>
 (fun w =>
 oz pr (sNil t46) fun t78 =>
 oz pr (sFA 153 t78 2) fun t79 =>
 oa pr w (sLoad 3 t79) fun t80 =>
 oz pr (sFA N.st t77 0) fun t81 =>
 oa pr w (sLoad 4 t81) fun t82 =>
 cl pr E w N.f_tell #[a0, t80, t82] fun _ w =>
 o pr E w (sLoad N.st t76) fun t83 w =>
 o pr E w (sStore N.st t12 t83) fun _ w =>
 j1 [] w) (dr w))) (dr w))
  (o pr E w (sAssert t5 135 154 true) fun t84 w =>
 o pr E w (sExt t84 1) fun t85 w =>
 o pr E w (sExt t84 0) fun t86 w =>
 condP t85 ((fun w =>
 (fun (k3 : Value → Value → World → Prop) =>
 oz pr (sNil t86) fun t87 =>
 oz pr (sFA 156 t87 1) fun t88 =>
 oa pr w (sLoad 151 t88) fun t89 =>
 oa pr w (sLoad N.st t12) fun t90 =>
 (cl pr E w N.f_split #[a0, t89, t90] fun t91 w =>
 oz pr (sExt t91 0) fun t92 =>
 oz pr (sExt t91 1) fun t93 =>
 (o pr E w (sAlloc N.st) fun t94 w =>
 o pr E w (sAlloc N.st) fun t95 w =>
 o pr E w (sStore N.st t94 t92) fun _ w =>
 o pr E w (sStore N.st t95 t93) fun _ w =>
 k3 t94 t95 w) ∧
 (o pr E w (sAlloc N.st) fun t96 w =>
 o pr E w (sAlloc N.st) fun t97 w =>
 o pr E w (sStore N.st t97 t92) fun _ w =>
 o pr E w (sStore N.st t96 t93) fun _ w =>
 k3 t97 t96 w)) ∧
 (o pr E w (sAlloc N.st) fun t98 w =>
 rk pr w (sLoad N.st t12) t90 ∧
 rk pr w (sLoad 151 t88) t89 ∧
 (cl pr E w N.f_split #[a0, t89, t90] fun t99 w =>
 oz pr (sExt t99 0) fun t100 =>
 oz pr (sExt t99 1) fun t101 =>
 o pr E w (sAlloc N.st) fun t102 w =>
 o pr E w (sStore N.st t98 t100) fun _ w =>
 o pr E w (sStore N.st t102 t101) fun _ w =>
 k3 t98 t102 w) ∧
 (o pr E w (sAlloc N.st) fun t103 w =>
 rk pr w (sLoad N.st t12) t90 ∧
 rk pr w (sLoad 151 t88) t89 ∧
 cl pr E w N.f_split #[a0, t89, t90] fun t104 w =>
 oz pr (sExt t104 0) fun t105 =>
 oz pr (sExt t104 1) fun t106 =>
 o pr E w (sStore N.st t98 t105) fun _ w =>
 o pr E w (sStore N.st t103 t106) fun _ w =>
 k3 t98 t103 w)) ∧
 (o pr E w (sAlloc N.st) fun t107 w =>
 rk pr w (sLoad N.st t12) t90 ∧
 rk pr w (sLoad 151 t88) t89 ∧
 (cl pr E w N.f_split #[a0, t89, t90] fun t108 w =>
 oz pr (sExt t108 0) fun t109 =>
 oz pr (sExt t108 1) fun t110 =>
 o pr E w (sAlloc N.st) fun t111 w =>
 o pr E w (sStore N.st t111 t109) fun _ w =>
 o pr E w (sStore N.st t107 t110) fun _ w =>
 k3 t111 t107 w) ∧
 (o pr E w (sAlloc N.st) fun t112 w =>
 rk pr w (sLoad N.st t12) t90 ∧
 rk pr w (sLoad 151 t88) t89 ∧
 cl pr E w N.f_split #[a0, t89, t90] fun t113 w =>
 oz pr (sExt t113 0) fun t114 =>
 oz pr (sExt t113 1) fun t115 =>
 o pr E w (sStore N.st t112 t114) fun _ w =>
 o pr E w (sStore N.st t107 t115) fun _ w =>
 k3 t112 t107 w)))
 (fun t116 t117 w =>
 (fun w =>
 oz pr (sNil t86) fun t118 =>
 oz pr (sFA 156 t118 2) fun t119 =>
 oa pr w (sLoad 83 t119) fun t120 =>
 oa pr w (sLoad N.st t116) fun t121 =>
 cl pr E w N.f_list #[a0, t120, t121] fun t122 w =>
 o pr E w (sStore N.st t116 t122) fun _ w =>
 (fun w =>
 oa pr w (sLoad N.st t116) fun t123 =>
 oz pr (sNil t86) fun t124 =>
 oz pr (sFA 156 t124 3) fun t125 =>
 oa pr w (sLoad 83 t125) fun t126 =>
 oa pr w (sLoad N.st t117) fun t127 =>
 cl pr E w N.f_list #[a0, t126, t127] fun t128 w =>
 rk pr w (sLoad N.st t116) t123 ∧
 cl pr E w N.f_both #[a0, t123, t128] fun t129 w =>
 o pr E w (sStore N.st t12 t129) fun _ w =>
 j1 [] w) (dr w)) (dr w))) (dr w))
  (o pr E w (sAssert t5 135 157 true) fun t130 w =>
 o pr E w (sExt t130 1) fun t131 w =>
 o pr E w (sExt t130 0) fun t132 w =>
 condP t131 (o pr E w (sLoad N.st t12) fun t133 w =>
 cl pr E w N.f_loop #[a0, t132, t133] fun t134 w =>
 o pr E w (sStore N.st t12 t134) fun _ w =>
 j1 [] w)
  (j1 [] w)))))) ∧
 o pr E w (sFA N.st t12 0) fun t135 w =>
 o pr E w (sLoad 4 t135) fun t136 w =>
 o pr E w (sUn .not 4 t136) fun t137 w =>
 condP t137 (j3 [t12, t138] w)
  (o pr E w (sAssert t5 135 157 true) fun t139 w =>
 o pr E w (sExt t139 0) fun _ w =>
 o pr E w (sExt t139 1) fun t140 w =>
 o pr E w (sUn .not 4 t140) fun t141 w =>
 condP t141 ((fun w =>
 oa pr w (sLoad N.st t12) fun t142 =>
 o pr E w (sInvoke t5 "Where" []) fun t143 w =>
 rk pr w (sLoad N.st t12) t142 ∧
 cl pr E w N.f_come #[a0, t143, t142] fun _ w =>
 j2 [] w) (dr w))
  (j2 [] w)))
  (j3 [t12, t138] w))
def sv_list (N : SvN) (K : Value → World → Prop) (E : PanicK) (a0 a1 a2 : Value) (w : World) : Prop :=
 ∃ j1 : List Value → World → Prop, (∀ (e1 : Nat → Value) w, j1 [e1 5, e1 6] w →
 o pr E w (sLoad N.st (e1 5)) fun t141 w =>
 o pr E w (sStore N.st (e1 6) t141) fun _ w =>
 rs pr w (e1 6) N.st fun v0_0 =>
 K v0_0 w) ∧
 o pr E w (sBox N.st a2) fun t5 w =>
 o pr E w (sAlloc N.st) fun t6 w =>
 o pr E w (sB .len [83] 3 [a1]) fun t23 w =>
 ∃ (I2 : List Value → World → Prop) (m2 : List Value → World → Nat), I2 [(Value.int IntKind.i64 0)] w ∧
 ∀ (e2 : Nat → Value) w2, I2 [e2 24] w2 → (ct_list_1 N E e2 t23 I2 m2 w2 a1 t5 a0 j1 t6) w2
def ct_loop_1 (N : SvN) (E : PanicK) (e1 : Nat → Value) (a0 : Value) (t5 : Value) (t9 : Value) (I1 : List Value → World → Prop) (m1 : List Value → World → Nat) (w1 : World) (j1 : List Value → World → Prop) : World → Prop :=
 (fun w =>
 o pr E w (sBinC .lss 3 (e1 80) (Value.int IntKind.i64 8) 3) fun t1 w =>
 condP t1 ((fun w =>
 oz pr (sNil a0) fun t2 =>
 oz pr (sFA N.so t2 0) fun t3 =>
 oa pr w (sLoad N.tp t3) fun t4 =>
 oz pr (sFA N.st t5 1) fun t6 =>
 oz pr (sIA N.ar t6 (e1 80)) fun t7 =>
 oa pr w (sLoad N.v t7) fun t8 =>
 oz pr (sFA N.st t9 1) fun t10 =>
 oz pr (sIA N.ar t10 (e1 80)) fun t11 =>
 oa pr w (sLoad N.v t11) fun t12 =>
 oz pr (sNil t4) fun _ =>
 oz pr (sFA N.st t9 1) fun t13 =>
 o pr E w (sInvoke t4 "Widen" [t8, t12]) fun t14 w =>
 oz pr (sIA N.ar t13 (e1 80)) fun t15 =>
 o pr E w (sStore N.v t15 t14) fun _ w =>
 o pr E w (sBinC .add 3 (e1 80) (Value.int IntKind.i64 1) 3) fun t16 w =>
 I1 [t16] w ∧ m1 [t16] w < m1 [e1 80] w1) (dr w))
  (j1 [] w))
def ct_loop_2 (N : SvN) (E : PanicK) (e1 : Nat → Value) (I1 : List Value → World → Prop) (m1 : List Value → World → Nat) (w1 : World) (t3 : Value) (t6 : Value) (a0 : Value) (e3 : Nat → Value) (I2 : List Value → World → Prop) (m2 : List Value → World → Nat) (w2 : World) : World → Prop :=
 (fun w =>
 o pr E w (sBinC .lss 3 (e1 115) (Value.int IntKind.i64 8) 3) fun t1 w =>
 ∃ j1 : List Value → World → Prop, (∀ (e2 : Nat → Value) w, j1 [] w →
 o pr E w (sBinC .add 3 (e1 115) (Value.int IntKind.i64 1) 3) fun t2 w =>
 I1 [t2] w ∧ m1 [t2] w < m1 [e1 115] w1) ∧
 condP t1 ((fun (k1 : Value → World → Prop) =>
 o pr E w (sFA N.st t3 0) fun t4 w =>
 o pr E w (sLoad 4 t4) fun t5 w =>
 condG t5 true (o pr E w (sFA N.st t6 0) fun t7 w =>
 o pr E w (sLoad 4 t7) fun t8 w =>
 o pr E w (sPick t5 t8 (Value.bool false)) fun t9 w =>
 k1 t9 w)
  (o pr E w (sPick t5 undef (Value.bool false)) fun t10 w =>
 k1 t10 w))
 (fun t11 w =>
 condP t11 ((fun w =>
 oz pr (sNil a0) fun t12 =>
 oz pr (sFA N.so t12 0) fun t13 =>
 oa pr w (sLoad N.tp t13) fun t14 =>
 oz pr (sFA N.st t3 1) fun t15 =>
 oz pr (sIA N.ar t15 (e1 115)) fun t16 =>
 oa pr w (sLoad N.v t16) fun t17 =>
 oz pr (sFA N.st t6 1) fun t18 =>
 oz pr (sIA N.ar t18 (e1 115)) fun t19 =>
 oa pr w (sLoad N.v t19) fun t20 =>
 oz pr (sNil t14) fun _ =>
 oz pr (sFA N.st t3 1) fun t21 =>
 o pr E w (sInvoke t14 "Narrow" [t17, t20]) fun t22 w =>
 oz pr (sIA N.ar t21 (e1 115)) fun t23 =>
 o pr E w (sStore N.v t23 t22) fun _ w =>
 j1 [] w) (dr w))
  (j1 [] w)))
  (o pr E w (sBinC .add 3 (e3 108) (Value.int IntKind.i64 1) 3) fun t24 w =>
 I2 [t24] w ∧ m2 [t24] w < m2 [e3 108] w2))
def ct_loop_3 (N : SvN) (E : PanicK) (e1 : Nat → Value) (t1 : Value) (t3 : Value) (t5 : Value) (a0 : Value) (a1 : Value) (I2 : List Value → World → Prop) (m2 : List Value → World → Nat) (w2 : World) (t49 : Value) (t53 : Value) (K : Value → World → Prop) : World → Prop :=
 (fun w =>
 o pr E w (sBin .lss 3 (e1 108) t1 3) fun t2 w =>
 condP t2 (o pr E w (sLoad N.st t3) fun t4 w =>
 o pr E w (sLoad N.st t5) fun t6 w =>
 cl pr E w N.f_round #[a0, a1, t4, t6] fun t7 w =>
 o pr E w (sAlloc N.st) fun t8 w =>
 o pr E w (sStore N.st t8 t7) fun _ w =>
 ∃ (I1 : List Value → World → Prop) (m1 : List Value → World → Nat), I1 [(Value.int IntKind.i64 0)] w ∧
 ∀ (e2 : Nat → Value) w1, I1 [e2 115] w1 → (ct_loop_2 N E e2 I1 m1 w1 t5 t8 a0 e1 I2 m2 w2) w1)
  ((fun w =>
 oz pr (sNil a1) fun t9 =>
 oz pr (sFA 159 t9 0) fun t10 =>
 oz pr (sFA 133 t10 0) fun t11 =>
 oa pr w (sLoad 3 t11) fun t12 =>
 oa pr w (sLoad N.st t5) fun t13 =>
 cl pr E w N.f_come #[a0, t12, t13] fun _ w =>
 (fun w =>
 (fun (k1 : Value → Value → World → Prop) =>
 oz pr (sNil a1) fun t14 =>
 oz pr (sFA 159 t14 1) fun t15 =>
 oa pr w (sLoad 151 t15) fun t16 =>
 oa pr w (sLoad N.st t5) fun t17 =>
 (cl pr E w N.f_split #[a0, t16, t17] fun t18 w =>
 oz pr (sExt t18 0) fun t19 =>
 oz pr (sExt t18 1) fun t20 =>
 (o pr E w (sAlloc N.st) fun t21 w =>
 o pr E w (sAlloc N.st) fun t22 w =>
 o pr E w (sStore N.st t21 t19) fun _ w =>
 o pr E w (sStore N.st t22 t20) fun _ w =>
 k1 t21 t22 w) ∧
 (o pr E w (sAlloc N.st) fun t23 w =>
 o pr E w (sAlloc N.st) fun t24 w =>
 o pr E w (sStore N.st t24 t19) fun _ w =>
 o pr E w (sStore N.st t23 t20) fun _ w =>
 k1 t24 t23 w)) ∧
 (o pr E w (sAlloc N.st) fun t25 w =>
 rk pr w (sLoad N.st t5) t17 ∧
 rk pr w (sLoad 151 t15) t16 ∧
 (cl pr E w N.f_split #[a0, t16, t17] fun t26 w =>
 oz pr (sExt t26 0) fun t27 =>
 oz pr (sExt t26 1) fun t28 =>
 o pr E w (sAlloc N.st) fun t29 w =>
 o pr E w (sStore N.st t25 t27) fun _ w =>
 o pr E w (sStore N.st t29 t28) fun _ w =>
 k1 t25 t29 w) ∧
 (o pr E w (sAlloc N.st) fun t30 w =>
 rk pr w (sLoad N.st t5) t17 ∧
 rk pr w (sLoad 151 t15) t16 ∧
 cl pr E w N.f_split #[a0, t16, t17] fun t31 w =>
 oz pr (sExt t31 0) fun t32 =>
 oz pr (sExt t31 1) fun t33 =>
 o pr E w (sStore N.st t25 t32) fun _ w =>
 o pr E w (sStore N.st t30 t33) fun _ w =>
 k1 t25 t30 w)) ∧
 (o pr E w (sAlloc N.st) fun t34 w =>
 rk pr w (sLoad N.st t5) t17 ∧
 rk pr w (sLoad 151 t15) t16 ∧
 (cl pr E w N.f_split #[a0, t16, t17] fun t35 w =>
 oz pr (sExt t35 0) fun t36 =>
 oz pr (sExt t35 1) fun t37 =>
 o pr E w (sAlloc N.st) fun t38 w =>
 o pr E w (sStore N.st t38 t36) fun _ w =>
 o pr E w (sStore N.st t34 t37) fun _ w =>
 k1 t38 t34 w) ∧
 (o pr E w (sAlloc N.st) fun t39 w =>
 rk pr w (sLoad N.st t5) t17 ∧
 rk pr w (sLoad 151 t15) t16 ∧
 cl pr E w N.f_split #[a0, t16, t17] fun t40 w =>
 oz pr (sExt t40 0) fun t41 =>
 oz pr (sExt t40 1) fun t42 =>
 o pr E w (sStore N.st t39 t41) fun _ w =>
 o pr E w (sStore N.st t34 t42) fun _ w =>
 k1 t39 t34 w)))
 (fun t43 t44 w =>
 (fun w =>
 oz pr (sNil a1) fun t45 =>
 oz pr (sFA 159 t45 2) fun t46 =>
 oa pr w (sLoad 83 t46) fun t47 =>
 oa pr w (sLoad N.st t43) fun t48 =>
 cl pr E w N.f_list #[a0, t47, t48] fun _ w =>
 o pr E w (sLoad N.st t49) fun t50 w =>
 o pr E w (sLoad N.st t44) fun t51 w =>
 cl pr E w N.f_both #[a0, t50, t51] fun t52 w =>
 o pr E w (sStore N.st t53 t52) fun _ w =>
 rs pr w t53 N.st fun v1_0 =>
 K v1_0 w) (dr w))) (dr w)) (dr w)))
def ct_loop_4 (N : SvN) (E : PanicK) (e2 : Nat → Value) (I1 : List Value → World → Prop) (m1 : List Value → World → Nat) (w1 : World) (t2 : Value) (t4 : Value) (a0 : Value) (a1 : Value) (t24 : Value) (t25 : Value) (K : Value → World → Prop) : World → Prop :=
 (fun w =>
 ∃ j1 : List Value → World → Prop, (∀ (e1 : Nat → Value) w, j1 [] w →
 o pr E w (sBinC .add 3 (e2 11) (Value.int IntKind.i64 1) 3) fun t1 w =>
 I1 [t1] w ∧ m1 [t1] w < m1 [e2 11] w1) ∧
 (fun w =>
 (fun (k1 : Value → World → Prop) =>
 oa pr w (sLoad N.st t2) fun t3 =>
 oa pr w (sLoad N.st t4) fun t5 =>
 oa pr w (sLoad N.st t2) fun t6 =>
 (cl pr E w N.f_round #[a0, a1, t5, t6] fun t7 w =>
 rk pr w (sLoad N.st t2) t3 ∧
 (cl pr E w N.f_both #[a0, t3, t7] fun t8 w =>
 o pr E w (sAlloc N.st) fun t9 w =>
 o pr E w (sStore N.st t9 t8) fun _ w =>
 k1 t9 w) ∧
 (o pr E w (sAlloc N.st) fun t10 w =>
 rk pr w (sLoad N.st t2) t3 ∧
 cl pr E w N.f_both #[a0, t3, t7] fun t11 w =>
 o pr E w (sStore N.st t10 t11) fun _ w =>
 k1 t10 w)) ∧
 (o pr E w (sAlloc N.st) fun t12 w =>
 rk pr w (sLoad N.st t2) t6 ∧
 rk pr w (sLoad N.st t4) t5 ∧
 rk pr w (sLoad N.st t2) t3 ∧
 cl pr E w N.f_round #[a0, a1, t5, t6] fun t13 w =>
 rk pr w (sLoad N.st t2) t3 ∧
 cl pr E w N.f_both #[a0, t3, t13] fun t14 w =>
 o pr E w (sStore N.st t12 t14) fun _ w =>
 k1 t12 w))
 (fun t15 w =>
 ∃ j2 : List Value → World → Prop, (∀ (e3 : Nat → Value) w, j2 [] w →
 o pr E w (sLoad N.st t15) fun t16 w =>
 o pr E w (sStore N.st t2 t16) fun _ w =>
 j1 [] w) ∧
 o pr E w (sLoad N.st t15) fun t17 w =>
 o pr E w (sLoad N.st t2) fun t18 w =>
 o pr E w (sBin .eql N.st t17 t18 N.st) fun t19 w =>
 condP t19 (o pr E w (sNil a0) fun t20 w =>
 o pr E w (sFA N.so t20 1) fun t21 w =>
 o pr E w (sFA 26 t21 2) fun t22 w =>
 o pr E w (sLoad 3 t22) fun t23 w =>
 ∃ (I2 : List Value → World → Prop) (m2 : List Value → World → Nat), I2 [(Value.int IntKind.i64 0)] w ∧
 ∀ (e4 : Nat → Value) w2, I2 [e4 108] w2 → (ct_loop_3 N E e4 t23 t4 t2 a0 a1 I2 m2 w2 t24 t25 K) w2)
  ((fun (k2 : Value → World → Prop) =>
 o pr E w (sFA N.st t2 0) fun t26 w =>
 o pr E w (sLoad 4 t26) fun t27 w =>
 condG t27 true (o pr E w (sNil a0) fun t28 w =>
 o pr E w (sFA N.so t28 1) fun t29 w =>
 o pr E w (sFA 26 t29 1) fun t30 w =>
 o pr E w (sLoad 3 t30) fun t31 w =>
 o pr E w (sBin .gtr 3 (e2 11) t31 3) fun t32 w =>
 o pr E w (sPick t27 t32 (Value.bool false)) fun t33 w =>
 k2 t33 w)
  (o pr E w (sPick t27 undef (Value.bool false)) fun t34 w =>
 k2 t34 w))
 (fun t35 w =>
 condP t35 (∃ (I3 : List Value → World → Prop) (m3 : List Value → World → Nat), I3 [(Value.int IntKind.i64 0)] w ∧
 ∀ (e5 : Nat → Value) w3, I3 [e5 80] w3 → (ct_loop_1 N E e5 a0 t2 t15 I3 m3 w3 j2) w3)
  (j2 [] w))))) (dr w))
def ct_loop_5 (N : SvN) (E : PanicK) (e1 : Nat → Value) (t1 : Value) (a1 : Value) (t7 : Value) (a0 : Value) (t40 : Value) (I1 : List Value → World → Prop) (m1 : List Value → World → Nat) (w1 : World) (t52 : Value) (K : Value → World → Prop) : World → Prop :=
 (fun w =>
 o pr E w (sBin .lss 3 (e1 23) t1 3) fun t2 w =>
 condP t2 ((fun w =>
 oz pr (sNil a1) fun t3 =>
 oz pr (sFA 159 t3 0) fun t4 =>
 oz pr (sFA 133 t4 0) fun t5 =>
 oa pr w (sLoad 3 t5) fun t6 =>
 oa pr w (sLoad N.st t7) fun t8 =>
 cl pr E w N.f_come #[a0, t6, t8] fun _ w =>
 (fun w =>
 (fun (k1 : Value → Value → World → Prop) =>
 oz pr (sNil a1) fun t9 =>
 oz pr (sFA 159 t9 1) fun t10 =>
 oa pr w (sLoad 151 t10) fun t11 =>
 oa pr w (sLoad N.st t7) fun t12 =>
 (cl pr E w N.f_split #[a0, t11, t12] fun t13 w =>
 oz pr (sExt t13 0) fun t14 =>
 oz pr (sExt t13 1) fun t15 =>
 (o pr E w (sAlloc N.st) fun t16 w =>
 o pr E w (sAlloc N.st) fun t17 w =>
 o pr E w (sStore N.st t16 t14) fun _ w =>
 o pr E w (sStore N.st t17 t15) fun _ w =>
 k1 t16 t17 w) ∧
 (o pr E w (sAlloc N.st) fun t18 w =>
 o pr E w (sAlloc N.st) fun t19 w =>
 o pr E w (sStore N.st t19 t14) fun _ w =>
 o pr E w (sStore N.st t18 t15) fun _ w =>
 k1 t19 t18 w)) ∧
 (o pr E w (sAlloc N.st) fun t20 w =>
 rk pr w (sLoad N.st t7) t12 ∧
 rk pr w (sLoad 151 t10) t11 ∧
 (cl pr E w N.f_split #[a0, t11, t12] fun t21 w =>
 oz pr (sExt t21 0) fun t22 =>
 oz pr (sExt t21 1) fun t23 =>
 o pr E w (sAlloc N.st) fun t24 w =>
 o pr E w (sStore N.st t20 t22) fun _ w =>
 o pr E w (sStore N.st t24 t23) fun _ w =>
 k1 t20 t24 w) ∧
 (o pr E w (sAlloc N.st) fun t25 w =>
 rk pr w (sLoad N.st t7) t12 ∧
 rk pr w (sLoad 151 t10) t11 ∧
 cl pr E w N.f_split #[a0, t11, t12] fun t26 w =>
 oz pr (sExt t26 0) fun t27 =>
 oz pr (sExt t26 1) fun t28 =>
 o pr E w (sStore N.st t20 t27) fun _ w =>
 o pr E w (sStore N.st t25 t28) fun _ w =>
 k1 t20 t25 w)) ∧
 (o pr E w (sAlloc N.st) fun t29 w =>
 rk pr w (sLoad N.st t7) t12 ∧
 rk pr w (sLoad 151 t10) t11 ∧
 (cl pr E w N.f_split #[a0, t11, t12] fun t30 w =>
 oz pr (sExt t30 0) fun t31 =>
 oz pr (sExt t30 1) fun t32 =>
 o pr E w (sAlloc N.st) fun t33 w =>
 o pr E w (sStore N.st t33 t31) fun _ w =>
 o pr E w (sStore N.st t29 t32) fun _ w =>
 k1 t33 t29 w) ∧
 (o pr E w (sAlloc N.st) fun t34 w =>
 rk pr w (sLoad N.st t7) t12 ∧
 rk pr w (sLoad 151 t10) t11 ∧
 cl pr E w N.f_split #[a0, t11, t12] fun t35 w =>
 oz pr (sExt t35 0) fun t36 =>
 oz pr (sExt t35 1) fun t37 =>
 o pr E w (sStore N.st t34 t36) fun _ w =>
 o pr E w (sStore N.st t29 t37) fun _ w =>
 k1 t34 t29 w)))
 (fun t38 t39 w =>
 o pr E w (sLoad N.st t40) fun t41 w =>
 o pr E w (sLoad N.st t39) fun t42 w =>
 cl pr E w N.f_both #[a0, t41, t42] fun t43 w =>
 o pr E w (sStore N.st t40 t43) fun _ w =>
 (fun w =>
 oz pr (sNil a1) fun t44 =>
 oz pr (sFA 159 t44 2) fun t45 =>
 oa pr w (sLoad 83 t45) fun t46 =>
 oa pr w (sLoad N.st t38) fun t47 =>
 cl pr E w N.f_list #[a0, t46, t47] fun t48 w =>
 o pr E w (sStore N.st t7 t48) fun _ w =>
 o pr E w (sBinC .add 3 (e1 23) (Value.int IntKind.i64 1) 3) fun t49 w =>
 I1 [t49] w ∧ m1 [t49] w < m1 [e1 23] w1) (dr w))) (dr w)) (dr w))
  (o pr E w (sLoad N.st t7) fun t50 w =>
 o pr E w (sAlloc N.st) fun t51 w =>
 o pr E w (sStore N.st t51 t50) fun _ w =>
 ∃ (I2 : List Value → World → Prop) (m2 : List Value → World → Nat), I2 [(Value.int IntKind.i64 1)] w ∧
 ∀ (e2 : Nat → Value) w2, I2 [e2 11] w2 → (ct_loop_4 N E e2 I2 m2 w2 t51 t7 a0 a1 t40 t52 K) w2))
def sv_loop (N : SvN) (K : Value → World → Prop) (E : PanicK) (a0 a1 a2 : Value) (w : World) : Prop :=
 o pr E w (sBox N.st a2) fun t5 w =>
 o pr E w (sAlloc N.st) fun t6 w =>
 o pr E w (sAlloc N.st) fun t7 w =>
 o pr E w (sNil a0) fun t19 w =>
 o pr E w (sFA N.so t19 1) fun t20 w =>
 o pr E w (sFA 26 t20 3) fun t21 w =>
 o pr E w (sLoad 3 t21) fun t22 w =>
 ∃ (I1 : List Value → World → Prop) (m1 : List Value → World → Nat), I1 [(Value.int IntKind.i64 0)] w ∧
 ∀ (e1 : Nat → Value) w1, I1 [e1 23] w1 → (ct_loop_5 N E e1 t22 a1 t5 a0 t7 I1 m1 w1 t6 K) w1
def sv_round (N : SvN) (K : Value → World → Prop) (E : PanicK) (a0 a1 a2 a3 : Value) (w : World) : Prop :=
 o pr E w (sBox N.st a2) fun t6 w =>
 o pr E w (sBox N.st a3) fun t7 w =>
 o pr E w (sAlloc N.st) fun t8 w =>
 o pr E w (sNil a0) fun t13 w =>
 o pr E w (sFA N.so t13 4) fun t14 w =>
 o pr E w (sLoad 3 t14) fun t15 w =>
 o pr E w (sBinC .add 3 t15 (Value.int IntKind.i64 1) 3) fun t16 w =>
 o pr E w (sNil a0) fun t17 w =>
 o pr E w (sFA N.so t17 4) fun t18 w =>
 o pr E w (sStore 3 t18 t16) fun _ w =>
 (fun w =>
 (fun (k2 : Value → World → Prop) =>
 oz pr (sNil a1) fun t22 =>
 oz pr (sFA 159 t22 1) fun t23 =>
 oa pr w (sLoad 151 t23) fun t24 =>
 oa pr w (sLoad N.st t7) fun t25 =>
 (cl pr E w N.f_split #[a0, t24, t25] fun t26 w =>
 oz pr (sExt t26 0) fun t27 =>
 oz pr (sExt t26 1) fun t28 =>
 (o pr E w (sAlloc N.st) fun t9_1 w =>
 o pr E w (sAlloc N.st) fun t10 w =>
 o pr E w (sStore N.st t9_1 t27) fun _ w =>
 o pr E w (sStore N.st t10 t28) fun _ w =>
 k2 t9_1 w) ∧
 (o pr E w (sAlloc N.st) fun t10_1 w =>
 o pr E w (sAlloc N.st) fun t9_2 w =>
 o pr E w (sStore N.st t9_2 t27) fun _ w =>
 o pr E w (sStore N.st t10_1 t28) fun _ w =>
 k2 t9_2 w)) ∧
 (o pr E w (sAlloc N.st) fun t9_3 w =>
 rk pr w (sLoad N.st t7) t25 ∧
 rk pr w (sLoad 151 t23) t24 ∧
 (cl pr E w N.f_split #[a0, t24, t25] fun t26_1 w =>
 oz pr (sExt t26_1 0) fun t27_1 =>
 oz pr (sExt t26_1 1) fun t28_1 =>
 o pr E w (sAlloc N.st) fun t10_2 w =>
 o pr E w (sStore N.st t9_3 t27_1) fun _ w =>
 o pr E w (sStore N.st t10_2 t28_1) fun _ w =>
 k2 t9_3 w) ∧
 (o pr E w (sAlloc N.st) fun t10_3 w =>
 rk pr w (sLoad N.st t7) t25 ∧
 rk pr w (sLoad 151 t23) t24 ∧
 cl pr E w N.f_split #[a0, t24, t25] fun t26_2 w =>
 oz pr (sExt t26_2 0) fun t27_2 =>
 oz pr (sExt t26_2 1) fun t28_2 =>
 o pr E w (sStore N.st t9_3 t27_2) fun _ w =>
 o pr E w (sStore N.st t10_3 t28_2) fun _ w =>
 k2 t9_3 w)) ∧
 (o pr E w (sAlloc N.st) fun t10_4 w =>
 rk pr w (sLoad N.st t7) t25 ∧
 rk pr w (sLoad 151 t23) t24 ∧
 (cl pr E w N.f_split #[a0, t24, t25] fun t26_3 w =>
 oz pr (sExt t26_3 0) fun t27_3 =>
 oz pr (sExt t26_3 1) fun t28_3 =>
 o pr E w (sAlloc N.st) fun t9_4 w =>
 o pr E w (sStore N.st t9_4 t27_3) fun _ w =>
 o pr E w (sStore N.st t10_4 t28_3) fun _ w =>
 k2 t9_4 w) ∧
 (o pr E w (sAlloc N.st) fun t9_5 w =>
 rk pr w (sLoad N.st t7) t25 ∧
 rk pr w (sLoad 151 t23) t24 ∧
 cl pr E w N.f_split #[a0, t24, t25] fun t26_4 w =>
 oz pr (sExt t26_4 0) fun t27_4 =>
 oz pr (sExt t26_4 1) fun t28_4 =>
 o pr E w (sStore N.st t9_5 t27_4) fun _ w =>
 o pr E w (sStore N.st t10_4 t28_4) fun _ w =>
 k2 t9_5 w)))
 (fun t9 w =>
 (fun w =>
 (fun (k3 : Value → World → Prop) =>
 oa pr w (sLoad N.st t6) fun t30 =>
 oz pr (sNil a1) fun t33 =>
 oz pr (sFA 159 t33 2) fun t34 =>
 oa pr w (sLoad 83 t34) fun t35 =>
 oa pr w (sLoad N.st t9) fun t36 =>
 (cl pr E w N.f_list #[a0, t35, t36] fun t37 w =>
 rk pr w (sLoad N.st t6) t30 ∧
 (cl pr E w N.f_both #[a0, t30, t37] fun t38 w =>
 o pr E w (sAlloc N.st) fun t11_1 w =>
 o pr E w (sStore N.st t11_1 t38) fun _ w =>
 k3 t11_1 w) ∧
 (o pr E w (sAlloc N.st) fun t11_2 w =>
 rk pr w (sLoad N.st t6) t30 ∧
 cl pr E w N.f_both #[a0, t30, t37] fun t38_1 w =>
 o pr E w (sStore N.st t11_2 t38_1) fun _ w =>
 k3 t11_2 w)) ∧
 (o pr E w (sAlloc N.st) fun t11_3 w =>
 rk pr w (sLoad N.st t9) t36 ∧
 rk pr w (sLoad 83 t34) t35 ∧
 rk pr w (sLoad N.st t6) t30 ∧
 cl pr E w N.f_list #[a0, t35, t36] fun t37_1 w =>
 rk pr w (sLoad N.st t6) t30 ∧
 cl pr E w N.f_both #[a0, t30, t37_1] fun t38_2 w =>
 o pr E w (sStore N.st t11_3 t38_2) fun _ w =>
 k3 t11_3 w))
 (fun t11 w =>
 o pr E w (sNil a0) fun t40 w =>
 o pr E w (sFA N.so t40 4) fun t41 w =>
 o pr E w (sLoad 3 t41) fun t42 w =>
 o pr E w (sBinC .sub 3 t42 (Value.int IntKind.i64 1) 3) fun t43 w =>
 o pr E w (sNil a0) fun t44 w =>
 o pr E w (sFA N.so t44 4) fun t45 w =>
 o pr E w (sStore 3 t45 t43) fun _ w =>
 o pr E w (sLoad N.st t11) fun t46 w =>
 o pr E w (sStore N.st t8 t46) fun _ w =>
 rs pr w t8 N.st fun v0_0 =>
 K v0_0 w)) (dr w))) (dr w)
def sv_split (N : SvN) (K : Value → World → Prop) (E : PanicK) (a0 a1 a2 : Value) (w : World) : Prop :=
 o pr E w (sBox N.ts a0) fun t3 w =>
 o pr E w (sBox 151 a1) fun t4 w =>
 o pr E w (sBox N.st a2) fun t5 w =>
 o pr E w (sAlloc N.st) fun t6 w =>
 o pr E w (sAlloc N.st) fun t7 w =>
 o pr E w (sFA N.st t5 0) fun t12 w =>
 o pr E w (sLoad 4 t12) fun t13 w =>
 o pr E w (sUn .not 4 t13) fun t14 w =>
 condP t14 (rs pr w t6 N.st fun v0_0 =>
 rs pr w t7 N.st fun v1_1 =>
 K (.tuple #[v0_0, v1_1]) w)
  (o pr E w (sLoad N.ts t3) fun t16 w =>
 o pr E w (sFA 151 t4 0) fun t17 w =>
 o pr E w (sLoad 138 t17) fun t18 w =>
 o pr E w (sLoad N.st t5) fun t19 w =>
 cl pr E w N.f_sum #[t16, t18, t19] fun t20 w =>
 o pr E w (sExt t20 0) fun t21 w =>
 o pr E w (sExt t20 1) fun t22 w =>
 o pr E w (sAlloc N.v) fun t8 w =>
 o pr E w (sStore N.v t8 t21) fun _ w =>
 o pr E w (sUn .not 4 t22) fun t24 w =>
 condP t24 (rs pr w t6 N.st fun v0_2 =>
 rs pr w t7 N.st fun v1_3 =>
 K (.tuple #[v0_2, v1_3]) w)
  (o pr E w (sLoad N.ts t3) fun t26 w =>
 o pr E w (sFA 151 t4 1) fun t27 w =>
 o pr E w (sLoad 138 t27) fun t28 w =>
 o pr E w (sLoad N.st t5) fun t29 w =>
 cl pr E w N.f_sum #[t26, t28, t29] fun t30 w =>
 o pr E w (sExt t30 0) fun t31 w =>
 o pr E w (sExt t30 1) fun t32 w =>
 o pr E w (sAlloc N.v) fun t10 w =>
 o pr E w (sStore N.v t10 t31) fun _ w =>
 o pr E w (sUn .not 4 t32) fun t34 w =>
 condP t34 (rs pr w t6 N.st fun v0_4 =>
 rs pr w t7 N.st fun v1_5 =>
 K (.tuple #[v0_4, v1_5]) w)
  (o pr E w (sFunc (.func N.f_split_1) [] [t3, t8, t10, t5, t4]) fun t35 w =>
 (fun w =>
 oz pr (sFA 151 t4 2) fun t37 =>
 oa pr w (sLoad 149 t37) fun t38 =>
 oz pr (sFA 151 t4 2) fun t41 =>
 oa pr w (sLoad 149 t41) fun t42 =>
 o pr E w (sCall t35 [t38]) fun t39 w =>
 rk pr w (sLoad 149 t41) t42 ∧
 cl pr E w n_tree_Rel_Opposite #[t42] fun t43 w =>
 o pr E w (sCall t35 [t43]) fun t44 w =>
 o pr E w (sStore N.st t6 t39) fun _ w =>
 o pr E w (sStore N.st t7 t44) fun _ w =>
 rs pr w t6 N.st fun v0_6 =>
 rs pr w t7 N.st fun v1_7 =>
 K (.tuple #[v0_6, v1_7]) w) (dr w))))
def sv_split_1 (N : SvN) (K : Value → World → Prop) (E : PanicK) (a0 a1 a2 a3 a4 a5 : Value) (w : World) : Prop :=
 o pr E w (sAlloc N.st) fun t7 w =>
 (fun w =>
 (fun (k1 : Value → Value → Value → Value → World → Prop) =>
 oa pr w (sLoad N.ts a1) fun t19 =>
 oz pr (sNil t19) fun t20 =>
 oz pr (sFA N.so t20 0) fun t21 =>
 oa pr w (sLoad N.tp t21) fun t22 =>
 oa pr w (sLoad N.v a2) fun t23 =>
 oa pr w (sLoad N.v a3) fun t25 =>
 (o pr E w (sInvoke t22 "Bounds" [t23, a0, t25]) fun t26 w =>
 oz pr (sExt t26 0) fun t27 =>
 oz pr (sExt t26 1) fun t28 =>
 oz pr (sExt t26 2) fun t29 =>
 oz pr (sExt t26 3) fun t30 =>
 (o pr E w (sAlloc N.v) fun t8_1 w =>
 o pr E w (sAlloc N.v) fun t9_1 w =>
 o pr E w (sStore N.v t8_1 t27) fun _ w =>
 o pr E w (sStore N.v t9_1 t28) fun _ w =>
 k1 t8_1 t9_1 t29 t30 w) ∧
 (o pr E w (sAlloc N.v) fun t9_2 w =>
 o pr E w (sAlloc N.v) fun t8_2 w =>
 o pr E w (sStore N.v t8_2 t27) fun _ w =>
 o pr E w (sStore N.v t9_2 t28) fun _ w =>
 k1 t8_2 t9_2 t29 t30 w)) ∧
 (o pr E w (sAlloc N.v) fun t8_3 w =>
 rk pr w (sLoad N.v a3) t25 ∧
 rk pr w (sLoad N.v a2) t23 ∧
 rk pr w (sLoad N.tp t21) t22 ∧
 rk pr w (sLoad N.ts a1) t19 ∧
 (o pr E w (sInvoke t22 "Bounds" [t23, a0, t25]) fun t26_1 w =>
 oz pr (sExt t26_1 0) fun t27_1 =>
 oz pr (sExt t26_1 1) fun t28_1 =>
 oz pr (sExt t26_1 2) fun t29_1 =>
 oz pr (sExt t26_1 3) fun t30_1 =>
 o pr E w (sAlloc N.v) fun t9_3 w =>
 o pr E w (sStore N.v t8_3 t27_1) fun _ w =>
 o pr E w (sStore N.v t9_3 t28_1) fun _ w =>
 k1 t8_3 t9_3 t29_1 t30_1 w) ∧
 (o pr E w (sAlloc N.v) fun t9_4 w =>
 rk pr w (sLoad N.v a3) t25 ∧
 rk pr w (sLoad N.v a2) t23 ∧
 rk pr w (sLoad N.tp t21) t22 ∧
 rk pr w (sLoad N.ts a1) t19 ∧
 o pr E w (sInvoke t22 "Bounds" [t23, a0, t25]) fun t26_2 w =>
 oz pr (sExt t26_2 0) fun t27_2 =>
 oz pr (sExt t26_2 1) fun t28_2 =>
 oz pr (sExt t26_2 2) fun t29_2 =>
 oz pr (sExt t26_2 3) fun t30_2 =>
 o pr E w (sStore N.v t8_3 t27_2) fun _ w =>
 o pr E w (sStore N.v t9_4 t28_2) fun _ w =>
 k1 t8_3 t9_4 t29_2 t30_2 w)) ∧
 (o pr E w (sAlloc N.v) fun t9_5 w =>
 rk pr w (sLoad N.v a3) t25 ∧
 rk pr w (sLoad N.v a2) t23 ∧
 rk pr w (sLoad N.tp t21) t22 ∧
 rk pr w (sLoad N.ts a1) t19 ∧
 (o pr E w (sInvoke t22 "Bounds" [t23, a0, t25]) fun t26_3 w =>
 oz pr (sExt t26_3 0) fun t27_3 =>
 oz pr (sExt t26_3 1) fun t28_3 =>
 oz pr (sExt t26_3 2) fun t29_3 =>
 oz pr (sExt t26_3 3) fun t30_3 =>
 o pr E w (sAlloc N.v) fun t8_4 w =>
 o pr E w (sStore N.v t8_4 t27_3) fun _ w =>
 o pr E w (sStore N.v t9_5 t28_3) fun _ w =>
 k1 t8_4 t9_5 t29_3 t30_3 w) ∧
 (o pr E w (sAlloc N.v) fun t8_5 w =>
 rk pr w (sLoad N.v a3) t25 ∧
 rk pr w (sLoad N.v a2) t23 ∧
 rk pr w (sLoad N.tp t21) t22 ∧
 rk pr w (sLoad N.ts a1) t19 ∧
 o pr E w (sInvoke t22 "Bounds" [t23, a0, t25]) fun t26_4 w =>
 oz pr (sExt t26_4 0) fun t27_4 =>
 oz pr (sExt t26_4 1) fun t28_4 =>
 oz pr (sExt t26_4 2) fun t29_4 =>
 oz pr (sExt t26_4 3) fun t30_4 =>
 o pr E w (sStore N.v t8_5 t27_4) fun _ w =>
 o pr E w (sStore N.v t9_5 t28_4) fun _ w =>
 k1 t8_5 t9_5 t29_4 t30_4 w)))
 (fun t8 t9 t10 t11 w =>
 o pr E w (sUn .not 4 t11) fun t32 w =>
 condP t32 (rs pr w t7 N.st fun v0_0 =>
 K v0_0 w)
  (o pr E w (sLoad N.st a4) fun t33 w =>
 o pr E w (sStore N.st t7 t33) fun _ w =>
 o pr E w (sUn .not 4 t10) fun t35 w =>
 condP t35 (rs pr w t7 N.st fun v0_1 =>
 K v0_1 w)
  (o pr E w (sFA 151 a5 0) fun t36 w =>
 o pr E w (sLoad 138 t36) fun t37 w =>
 o pr E w (sLoad N.v t8) fun t38 w =>
 o pr E w (sBuild N.sd [(0, t37), (1, t38)]) fun t39 w =>
 o pr E w (sFA 151 a5 1) fun t40 w =>
 o pr E w (sLoad 138 t40) fun t41 w =>
 o pr E w (sLoad N.v t9) fun t42 w =>
 o pr E w (sBuild N.sd [(0, t41), (1, t42)]) fun t43 w =>
 o pr E w (sBuildSlice N.sr 2 [(0, t39), (1, t43)]) fun t44 w =>
 o pr E w (sB .len [N.sr] 3 [t44]) fun t45 w =>
 ∃ (I1 : List Value → World → Prop) (m1 : List Value → World → Nat), I1 [(Value.int IntKind.i64 0)] w ∧
 ∀ (e1 : Nat → Value) w1, I1 [e1 46] w1 → (fun w =>
 o pr E w (sBin .lss 3 (e1 46) t45 3) fun t47 w =>
 ∃ j2 : List Value → World → Prop, (∀ (e2 : Nat → Value) w, j2 [] w →
 o pr E w (sBinC .add 3 (e1 46) (Value.int IntKind.i64 1) 3) fun t86 w =>
 I1 [t86] w ∧ m1 [t86] w < m1 [e1 46] w1) ∧
 condP t47 (o pr E w (sIA N.sr t44 (e1 46)) fun t48 w =>
 o pr E w (sLoad N.sd t48) fun t49 w =>
 o pr E w (sAlloc N.sd) fun t13 w =>
 o pr E w (sStore N.sd t13 t49) fun _ w =>
 o pr E w (sFA N.sd t13 0) fun t51 w =>
 o pr E w (sLoad 138 t51) fun t52 w =>
 o pr E w (sAssert t52 138 201 true) fun t53 w =>
 o pr E w (sExt t53 0) fun t54 w =>
 o pr E w (sExt t53 1) fun t55 w =>
 condP t55 ((fun w =>
 (fun (k10 : Value → Value → World → Prop) =>
 oa pr w (sLoad N.ts a1) fun t58 =>
 oz pr (sNil t58) fun t59 =>
 oz pr (sFA N.so t59 0) fun t60 =>
 oa pr w (sLoad N.tp t60) fun t61 =>
 oz pr (sNil t54) fun t63 =>
 oz pr (sFA 203 t63 0) fun t64 =>
 oa pr w (sLoad 3 t64) fun t65 =>
 oz pr (sFA N.st t7 1) fun t66 =>
 oz pr (sIA N.ar t66 t65) fun t67 =>
 oa pr w (sLoad N.v t67) fun t68 =>
 oz pr (sFA N.sd t13 1) fun t69 =>
 oa pr w (sLoad N.v t69) fun t70 =>
 oz pr (sNil t61) fun _ =>
 (o pr E w (sInvoke t61 "Meet" [t68, t70]) fun t73 w =>
 oz pr (sExt t73 0) fun t74 =>
 oz pr (sExt t73 1) fun t75 =>
 o pr E w (sAlloc N.v) fun t16_1 w =>
 o pr E w (sStore N.v t16_1 t74) fun _ w =>
 k10 t16_1 t75 w) ∧
 (o pr E w (sAlloc N.v) fun t16_2 w =>
 rk pr w (sLoad N.v t69) t70 ∧
 rk pr w (sLoad N.v t67) t68 ∧
 rk pr w (sLoad 3 t64) t65 ∧
 rk pr w (sLoad N.tp t60) t61 ∧
 rk pr w (sLoad N.ts a1) t58 ∧
 o pr E w (sInvoke t61 "Meet" [t68, t70]) fun t73_1 w =>
 oz pr (sExt t73_1 0) fun t74_1 =>
 oz pr (sExt t73_1 1) fun t75_1 =>
 o pr E w (sStore N.v t16_2 t74_1) fun _ w =>
 k10 t16_2 t75_1 w))
 (fun t16 t17 w =>
 o pr E w (sUn .not 4 t17) fun t77 w =>
 condP t77 (o pr E w (sBuild N.st []) fun t78 w =>
 o pr E w (sStore N.st t7 t78) fun _ w =>
 rs pr w t7 N.st fun v0_2 =>
 K v0_2 w)
  ((fun w =>
 oz pr (sNil t54) fun t80 =>
 oz pr (sFA 203 t80 0) fun t81 =>
 oa pr w (sLoad 3 t81) fun t82 =>
 oa pr w (sLoad N.v t16) fun t83 =>
 oz pr (sFA N.st t7 1) fun t84 =>
 oz pr (sIA N.ar t84 t82) fun t85 =>
 o pr E w (sStore N.v t85 t83) fun _ w =>
 j2 [] w) (dr w)))) (dr w))
  (j2 [] w))
  (o pr E w (sLoad N.st t7) fun t87 w =>
 o pr E w (sStore N.st t7 t87) fun _ w =>
 rs pr w t7 N.st fun v0_3 =>
 K v0_3 w)) w1)))) (dr w)
def sv_sum (N : SvN) (K : Value → World → Prop) (E : PanicK) (a0 a1 a2 : Value) (w : World) : Prop :=
 o pr E w (sBox N.st a2) fun t5 w =>
 o pr E w (sAlloc N.v) fun t6 w =>
 o pr E w (sAssert a1 138 198 true) fun t18 w =>
 o pr E w (sExt t18 1) fun t19 w =>
 o pr E w (sExt t18 0) fun t20 w =>
 condP t19 ((fun w =>
 oz pr (sNil a0) fun t22 =>
 oz pr (sFA N.so t22 0) fun t23 =>
 oa pr w (sLoad N.tp t23) fun t24 =>
 oz pr (sNil t20) fun t26 =>
 oz pr (sFA 200 t26 0) fun t27 =>
 oa pr w (sLoad 55 t27) fun t28 =>
 oz pr (sConv 55 3 t28) fun t29 =>
 oz pr (sNil t24) fun _ =>
 o pr E w (sInvoke t24 "Only" [t29]) fun t32 w =>
 o pr E w (sStore N.v t6 t32) fun _ w =>
 rs pr w t6 N.v fun v0_0 =>
 K (.tuple #[v0_0, (Value.bool true)]) w) (dr w))
  (o pr E w (sAssert a1 138 201 true) fun t33 w =>
 o pr E w (sExt t33 1) fun t34 w =>
 o pr E w (sExt t33 0) fun t35 w =>
 condP t34 (o pr E w (sNil t35) fun t37 w =>
 o pr E w (sFA 203 t37 0) fun t38 w =>
 o pr E w (sLoad 3 t38) fun t39 w =>
 o pr E w (sFA N.st t5 1) fun t40 w =>
 o pr E w (sIA N.ar t40 t39) fun t41 w =>
 o pr E w (sLoad N.v t41) fun t42 w =>
 o pr E w (sStore N.v t6 t42) fun _ w =>
 rs pr w t6 N.v fun v0_1 =>
 K (.tuple #[v0_1, (Value.bool true)]) w)
  (o pr E w (sAssert a1 138 204 true) fun t43 w =>
 o pr E w (sExt t43 1) fun t44 w =>
 o pr E w (sExt t43 0) fun t45 w =>
 condP t44 (∃ j1 : List Value → World → Prop, (∀ (e1 : Nat → Value) w, j1 [e1 11, e1 12] w →
 o pr E w (sLoad N.v (e1 11)) fun t63 w =>
 o pr E w (sStore N.v t6 t63) fun _ w =>
 rs pr w t6 N.v fun v0_2 =>
 K (.tuple #[v0_2, (e1 12)]) w) ∧
 (fun w =>
 (fun (k10 : Value → Value → World → Prop) =>
 oz pr (sNil t45) fun t49 =>
 oz pr (sFA 206 t49 0) fun t50 =>
 oa pr w (sLoad 138 t50) fun t51 =>
 oa pr w (sLoad N.st t5) fun t52 =>
 (cl pr E w N.f_sum #[a0, t51, t52] fun t53 w =>
 oz pr (sExt t53 0) fun t54 =>
 oz pr (sExt t53 1) fun t55 =>
 o pr E w (sAlloc N.v) fun t11_1 w =>
 o pr E w (sStore N.v t11_1 t54) fun _ w =>
 k10 t11_1 t55 w) ∧
 (o pr E w (sAlloc N.v) fun t11_2 w =>
 rk pr w (sLoad N.st t5) t52 ∧
 rk pr w (sLoad 138 t50) t51 ∧
 cl pr E w N.f_sum #[a0, t51, t52] fun t53_1 w =>
 oz pr (sExt t53_1 0) fun t54_1 =>
 oz pr (sExt t53_1 1) fun t55_1 =>
 o pr E w (sStore N.v t11_2 t54_1) fun _ w =>
 k10 t11_2 t55_1 w))
 (fun t11 t12 w =>
 condP t12 ((fun w =>
 oz pr (sNil a0) fun t58 =>
 oz pr (sFA N.so t58 0) fun t59 =>
 oa pr w (sLoad N.tp t59) fun t60 =>
 oa pr w (sLoad N.v t11) fun t61 =>
 o pr E w (sInvoke t60 "Minus" [t61]) fun t62 w =>
 o pr E w (sStore N.v t11 t62) fun _ w =>
 j1 [t11, t12] w) (dr w))
  (j1 [t11, t12] w))) (dr w))
  (o pr E w (sAssert a1 138 207 true) fun t65 w =>
 o pr E w (sExt t65 1) fun t66 w =>
 o pr E w (sExt t65 0) fun t67 w =>
 condP t66 ((fun w =>
 (fun (k16 : Value → Value → World → Prop) =>
 oz pr (sNil t67) fun t71 =>
 oz pr (sFA 209 t71 1) fun t72 =>
 oa pr w (sLoad 138 t72) fun t73 =>
 oa pr w (sLoad N.st t5) fun t74 =>
 (cl pr E w N.f_sum #[a0, t73, t74] fun t75 w =>
 oz pr (sExt t75 0) fun t76 =>
 oz pr (sExt t75 1) fun t77 =>
 o pr E w (sAlloc N.v) fun t14_1 w =>
 o pr E w (sStore N.v t14_1 t76) fun _ w =>
 k16 t14_1 t77 w) ∧
 (o pr E w (sAlloc N.v) fun t14_2 w =>
 rk pr w (sLoad N.st t5) t74 ∧
 rk pr w (sLoad 138 t72) t73 ∧
 cl pr E w N.f_sum #[a0, t73, t74] fun t75_1 w =>
 oz pr (sExt t75_1 0) fun t76_1 =>
 oz pr (sExt t75_1 1) fun t77_1 =>
 o pr E w (sStore N.v t14_2 t76_1) fun _ w =>
 k16 t14_2 t77_1 w))
 (fun t14 t15 w =>
 o pr E w (sUn .not 4 t15) fun t79 w =>
 condP t79 (o pr E w (sLoad N.v t14) fun t80 w =>
 o pr E w (sStore N.v t6 t80) fun _ w =>
 rs pr w t6 N.v fun v0_3 =>
 K (.tuple #[v0_3, (Value.bool false)]) w)
  ((fun w =>
 (fun (k19 : Value → Value → World → Prop) =>
 oz pr (sNil t67) fun t84 =>
 oz pr (sFA 209 t84 2) fun t85 =>
 oa pr w (sLoad 138 t85) fun t86 =>
 oa pr w (sLoad N.st t5) fun t87 =>
 (cl pr E w N.f_sum #[a0, t86, t87] fun t88 w =>
 oz pr (sExt t88 0) fun t89 =>
 oz pr (sExt t88 1) fun t90 =>
 o pr E w (sAlloc N.v) fun t16_1 w =>
 o pr E w (sStore N.v t16_1 t89) fun _ w =>
 k19 t90 t16_1 w) ∧
 (o pr E w (sAlloc N.v) fun t16_2 w =>
 rk pr w (sLoad N.st t5) t87 ∧
 rk pr w (sLoad 138 t85) t86 ∧
 cl pr E w N.f_sum #[a0, t86, t87] fun t88_1 w =>
 oz pr (sExt t88_1 0) fun t89_1 =>
 oz pr (sExt t88_1 1) fun t90_1 =>
 o pr E w (sStore N.v t16_2 t89_1) fun _ w =>
 k19 t90_1 t16_2 w))
 (fun t15_1 t16 w =>
 o pr E w (sUn .not 4 t15_1) fun t92 w =>
 condP t92 (o pr E w (sLoad N.v t16) fun t93 w =>
 o pr E w (sStore N.v t6 t93) fun _ w =>
 rs pr w t6 N.v fun v0_4 =>
 K (.tuple #[v0_4, (Value.bool false)]) w)
  ((fun w =>
 oz pr (sNil t67) fun t96 =>
 oz pr (sFA 209 t96 3) fun t97 =>
 oa pr w (sLoad 3 t97) fun t98 =>
 oz pr (sNil a0) fun t100 =>
 oz pr (sFA N.so t100 0) fun t101 =>
 oa pr w (sLoad N.tp t101) fun t102 =>
 oa pr w (sLoad N.v t16) fun t103 =>
 o pr E w (sInvoke t102 "Zero" [t103]) fun t104 w =>
 rk pr w (sLoad 3 t97) t98 ∧
 cl pr E w N.f_tell #[a0, t98, t104] fun _ w =>
 (fun w =>
 oz pr (sNil a0) fun t107 =>
 oz pr (sFA N.so t107 0) fun t108 =>
 oa pr w (sLoad N.tp t108) fun t109 =>
 oz pr (sNil t67) fun t111 =>
 oz pr (sFA 209 t111 0) fun t112 =>
 oa pr w (sLoad 5 t112) fun t113 =>
 oa pr w (sLoad N.v t14) fun t114 =>
 oa pr w (sLoad N.v t16) fun t115 =>
 oz pr (sNil t109) fun _ =>
 o pr E w (sInvoke t109 "Two" [t113, t114, t115]) fun t118 w =>
 oz pr (sExt t118 0) fun t119 =>
 oz pr (sExt t118 1) fun t120 =>
 o pr E w (sStore N.v t6 t119) fun _ w =>
 rs pr w t6 N.v fun v0_5 =>
 K (.tuple #[v0_5, t120]) w) (dr w)) (dr w)))) (dr w)))) (dr w))
  (o pr E w (sNil a0) fun t122 w =>
 o pr E w (sFA N.so t122 0) fun t123 w =>
 o pr E w (sLoad N.tp t123) fun t124 w =>
 o pr E w (sInvoke t124 "Whole" []) fun t125 w =>
 o pr E w (sStore N.v t6 t125) fun _ w =>
 rs pr w t6 N.v fun v0_6 =>
 K (.tuple #[v0_6, (Value.bool true)]) w))))
def sv_tell (N : SvN) (K : Value → World → Prop) (E : PanicK) (a0 a1 a2 : Value) (w : World) : Prop :=
 (fun (k0 : Value → World → Prop) =>
 o pr E w (sNil a0) fun t8 w =>
 o pr E w (sFA N.so t8 4) fun t9 w =>
 o pr E w (sLoad 3 t9) fun t10 w =>
 o pr E w (sBinC .gtr 3 t10 (Value.int IntKind.i64 0) 3) fun t11 w =>
 condG t11 false (o pr E w (sBinC .lss 3 a1 (Value.int IntKind.i64 0) 3) fun t14 w =>
 o pr E w (sPick t11 (Value.bool true) t14) fun t15 w =>
 k0 t15 w)
  (o pr E w (sPick t11 (Value.bool true) undef) fun t15_1 w =>
 k0 t15_1 w))
 (fun t6 w =>
 condP t6 (K (.tuple #[]) w)
  (condP a2 (o pr E w (sNil a0) fun t19 w =>
 o pr E w (sFA N.so t19 3) fun t20 w =>
 o pr E w (sLoad 22 t20) fun t21 w =>
 o pr E w (sIA 22 t21 a1) fun t23 w =>
 o pr E w (sStore 3 t23 (Value.int IntKind.i64 2)) fun _ w =>
 K (.tuple #[]) w)
  (o pr E w (sNil a0) fun t26 w =>
 o pr E w (sFA N.so t26 3) fun t27 w =>
 o pr E w (sLoad 22 t27) fun t28 w =>
 o pr E w (sIA 22 t28 a1) fun t30 w =>
 o pr E w (sLoad 3 t30) fun t31 w =>
 o pr E w (sBinC .eql 3 t31 (Value.int IntKind.i64 0) 3) fun t32 w =>
 condP t32 (o pr E w (sNil a0) fun t34 w =>
 o pr E w (sFA N.so t34 3) fun t35 w =>
 o pr E w (sLoad 22 t35) fun t36 w =>
 o pr E w (sIA 22 t36 a1) fun t38 w =>
 o pr E w (sStore 3 t38 (Value.int IntKind.i64 1)) fun _ w =>
 K (.tuple #[]) w)
  (K (.tuple #[]) w))))
structure SvT (N : SvN) : Prop where
 pl_tp : plainT pr N.tp = true
 pl_ts : plainT pr N.ts = true
 pl_tr : plainT pr N.tr = true
 ag_v : aggT pr N.v = some 2
 ag_st : aggT pr N.st = some 17
 ag_sd : aggT pr N.sd = some 3
 fo_so_0 : fieldOff pr N.so 0 = some 0
 fo_so_1 : fieldOff pr N.so 1 = some 1
 fo_so_2 : fieldOff pr N.so 2 = some 6
 fo_so_3 : fieldOff pr N.so 3 = some 7
 fo_so_4 : fieldOff pr N.so 4 = some 8
 fo_st_0 : fieldOff pr N.st 0 = some 0
 fo_st_1 : fieldOff pr N.st 1 = some 1
 fo_sd_0 : fieldOff pr N.sd 0 = some 0
 fo_sd_1 : fieldOff pr N.sd 1 = some 1
 il_sr : isSl pr N.sr = true
structure SvR (N : SvN) : Prop where
 both : ∀ (a0 a1 a2 : Value) (w : World) (R : Ending → World → Prop), sv_both N (fun v w => R (.returned v) w) (fun c w => R (.panicked c) w) a0 a1 a2 w → Calls pr N.f_both #[a0, a1, a2] w R
 come : ∀ (a0 a1 a2 : Value) (w : World) (R : Ending → World → Prop), sv_come N (fun v w => R (.returned v) w) (fun c w => R (.panicked c) w) a0 a1 a2 w → Calls pr N.f_come #[a0, a1, a2] w R
 list : ∀ (a0 a1 a2 : Value) (w : World) (R : Ending → World → Prop), sv_list N (fun v w => R (.returned v) w) (fun c w => R (.panicked c) w) a0 a1 a2 w → Calls pr N.f_list #[a0, a1, a2] w R
 loop : ∀ (a0 a1 a2 : Value) (w : World) (R : Ending → World → Prop), sv_loop N (fun v w => R (.returned v) w) (fun c w => R (.panicked c) w) a0 a1 a2 w → Calls pr N.f_loop #[a0, a1, a2] w R
 round : ∀ (a0 a1 a2 a3 : Value) (w : World) (R : Ending → World → Prop), sv_round N (fun v w => R (.returned v) w) (fun c w => R (.panicked c) w) a0 a1 a2 a3 w → Calls pr N.f_round #[a0, a1, a2, a3] w R
 split : ∀ (a0 a1 a2 : Value) (w : World) (R : Ending → World → Prop), sv_split N (fun v w => R (.returned v) w) (fun c w => R (.panicked c) w) a0 a1 a2 w → Calls pr N.f_split #[a0, a1, a2] w R
 split_1 : ∀ (a0 a1 a2 a3 a4 a5 : Value) (w : World) (R : Ending → World → Prop), sv_split_1 N (fun v w => R (.returned v) w) (fun c w => R (.panicked c) w) a0 a1 a2 a3 a4 a5 w → Calls pr N.f_split_1 #[a0, a1, a2, a3, a4, a5] w R
 sum : ∀ (a0 a1 a2 : Value) (w : World) (R : Ending → World → Prop), sv_sum N (fun v w => R (.returned v) w) (fun c w => R (.panicked c) w) a0 a1 a2 w → Calls pr N.f_sum #[a0, a1, a2] w R
 tell : ∀ (a0 a1 a2 : Value) (w : World) (R : Ending → World → Prop), sv_tell N (fun v w => R (.returned v) w) (fun c w => R (.panicked c) w) a0 a1 a2 w → Calls pr N.f_tell #[a0, a1, a2] w R
def RT7c := (And.intro (And.intro (And.intro (And.intro (And.intro (And.intro (rLoad pl3) (And.intro (raLoad pl3) (rkLoad pl3))) (And.intro (rStore pl3) (And.intro (rLoad pl4) (raLoad pl4)))) (And.intro (And.intro (rkLoad pl4) (And.intro (rStore pl4) (rLoad pl5))) (And.intro (raLoad pl5) (And.intro (rkLoad pl5) (rStore pl5))))) (And.intro (And.intro (And.intro (rLoad pl22) (And.intro (raLoad pl22) (rkLoad pl22))) (And.intro (rStore pl22) (And.intro (rLoad pl55) (raLoad pl55)))) (And.intro (And.intro (rkLoad pl55) (And.intro (rStore pl55) (rLoad pl83))) (And.intro (And.intro (raLoad pl83) (rkLoad pl83)) (And.intro (rStore pl83) (rLoad pl135)))))) (And.intro (And.intro (And.intro (And.intro (raLoad pl135) (And.intro (rkLoad pl135) (rStore pl135))) (And.intro (rLoad pl138) (And.intro (raLoad pl138) (rkLoad pl138)))) (And.intro (And.intro (rStore pl138) (And.intro (rLoad pl149) (raLoad pl149))) (And.intro (rkLoad pl149) (And.intro (rStore pl149) (rLoadA ag151))))) (And.intro (And.intro (And.intro (raLoadA ag151) (And.intro (rkLoadA ag151) (rStoreA ag151))) (And.intro (rFA fo26_1) (And.intro (rzFA fo26_1) (rFA fo26_2)))) (And.intro (And.intro (rzFA fo26_2) (And.intro (rFA fo26_3) (rzFA fo26_3))) (And.intro (And.intro (rFA fo133_0) (rzFA fo133_0)) (And.intro (rFA fo140_1) (rzFA fo140_1))))))) (And.intro (And.intro (And.intro (And.intro (And.intro (rFA fo140_2) (And.intro (rzFA fo140_2) (rFA fo146_1))) (And.intro (rzFA fo146_1) (And.intro (rFA fo151_0) (rzFA fo151_0)))) (And.intro (And.intro (rFA fo151_1) (And.intro (rzFA fo151_1) (rFA fo151_2))) (And.intro (rzFA fo151_2) (And.intro (rFA fo153_1) (rzFA fo153_1))))) (And.intro (And.intro (And.intro (rFA fo153_2) (And.intro (rzFA fo153_2) (rFA fo156_1))) (And.intro (rzFA fo156_1) (And.intro (rFA fo156_2) (rzFA fo156_2)))) (And.intro (And.intro (rFA fo156_3) (And.intro (rzFA fo156_3) (rFA fo159_0))) (And.intro (And.intro (rzFA fo159_0) (rFA fo159_1)) (And.intro (rzFA fo159_1) (rFA fo159_2)))))) (And.intro (And.intro (And.intro (And.intro (rzFA fo159_2) (And.intro (rFA fo200_0) (rzFA fo200_0))) (And.intro (rFA fo203_0) (And.intro (rzFA fo203_0) (rFA fo206_0)))) (And.intro (And.intro (rzFA fo206_0) (And.intro (rFA fo209_0) (rzFA fo209_0))) (And.intro (rFA fo209_1) (And.intro (rzFA fo209_1) (rFA fo209_2))))) (And.intro (And.intro (And.intro (rzFA fo209_2) (And.intro (rFA fo209_3) (rzFA fo209_3))) (And.intro (rLenL il83) (And.intro (rzLenL il83) (rConv ik3 ik3)))) (And.intro (And.intro (rzConv ik3 ik3) (And.intro (rConv ik3 ik55) (rzConv ik3 ik55))) (And.intro (And.intro (rConv ik55 ik3) (rzConv ik55 ik3)) (And.intro (rConv ik55 ik55) (rzConv ik55 ik55))))))))
def RT7n {N : SvN} (h : SvT N) := (And.intro (And.intro (And.intro (And.intro (And.intro (rLoad h.pl_tp) (raLoad h.pl_tp)) (And.intro (rkLoad h.pl_tp) (And.intro (rStore h.pl_tp) (rLoad h.pl_ts)))) (And.intro (And.intro (raLoad h.pl_ts) (And.intro (rkLoad h.pl_ts) (rStore h.pl_ts))) (And.intro (rLoad h.pl_tr) (And.intro (raLoad h.pl_tr) (rkLoad h.pl_tr))))) (And.intro (And.intro (And.intro (rStore h.pl_tr) (rLoadA h.ag_v)) (And.intro (raLoadA h.ag_v) (And.intro (rkLoadA h.ag_v) (rStoreA h.ag_v)))) (And.intro (And.intro (rLoadA h.ag_st) (And.intro (raLoadA h.ag_st) (rkLoadA h.ag_st))) (And.intro (rStoreA h.ag_st) (And.intro (rLoadA h.ag_sd) (raLoadA h.ag_sd)))))) (And.intro (And.intro (And.intro (And.intro (rkLoadA h.ag_sd) (rStoreA h.ag_sd)) (And.intro (rFA h.fo_so_0) (And.intro (rzFA h.fo_so_0) (rFA h.fo_so_1)))) (And.intro (And.intro (rzFA h.fo_so_1) (And.intro (rFA h.fo_so_2) (rzFA h.fo_so_2))) (And.intro (rFA h.fo_so_3) (And.intro (rzFA h.fo_so_3) (rFA h.fo_so_4))))) (And.intro (And.intro (And.intro (rzFA h.fo_so_4) (rFA h.fo_st_0)) (And.intro (rzFA h.fo_st_0) (And.intro (rFA h.fo_st_1) (rzFA h.fo_st_1)))) (And.intro (And.intro (rFA h.fo_sd_0) (And.intro (rzFA h.fo_sd_0) (rFA h.fo_sd_1))) (And.intro (rzFA h.fo_sd_1) (And.intro (rLenL h.il_sr) (rzLenL h.il_sr)))))))
end Go.Inv.Iv
namespace Go.Inv
open Go.Sh
structure Emb (V : Type) where
 a : V → Int
 b : V → Int
section
variable {V : Type} (e : Emb V)
def Emb.l (x : V) : List Value := [.int .i64 (e.a x), .int .i64 (e.b x)]
abbrev Emb.v (x : V) : Value := .agg #[.int .i64 (e.a x), .int .i64 (e.b x)]
def stL (x : St V) : List Value := .bool x.some :: x.vars.flatMap e.l
def stA (x : St V) : Array Value := (stL e x).toArray
def fcA (fs : List (St V)) : Array Value := (fs.flatMap (stL e)).toArray
theorem flat_len {α β : Type} {f : α → List β} {k : Nat} : ∀ {l : List α}, (∀ x ∈ l, (f x).length = k) → (l.flatMap f).length = l.length * k
 | [], _ => by simp
 | x :: l, h => by
   rw [List.flatMap_cons, List.length_append, h x (by simp), flat_len (fun y hy => h y (by simp [hy])), List.length_cons, Nat.add_mul, Nat.one_mul, Nat.add_comm]
theorem flat_split {α β : Type} {f : α → List β} {l : List α} {i : Nat} (hi : i < l.length) : l.flatMap f = (l.take i).flatMap f ++ (f l[i] ++ (l.drop (i + 1)).flatMap f) := by
 conv => lhs; rw [← List.take_append_drop i l, List.drop_eq_getElem_cons hi]
 rw [List.flatMap_append, List.flatMap_cons]
theorem flat_set {α β : Type} {f : α → List β} {l : List α} {i : Nat} (u : α) (hi : i < l.length) : (l.set i u).flatMap f = (l.take i).flatMap f ++ (f u ++ (l.drop (i + 1)).flatMap f) := by
 rw [List.set_eq_take_append_cons_drop, if_pos hi, List.flatMap_append, List.flatMap_cons]
theorem take_len {α β : Type} {f : α → List β} {k : Nat} {l : List α} {i : Nat} (h : ∀ x ∈ l, (f x).length = k) (hi : i < l.length) : ((l.take i).flatMap f).length = i * k := by
 rw [flat_len (fun x hx => h x (List.mem_of_mem_take hx)), List.length_take, Nat.min_eq_left (by omega)]
theorem stL_len {x : St V} (h : x.vars.length = 8) : (stL e x).length = 17 := by
 unfold stL; rw [List.length_cons, flat_len (k := 2) (fun _ _ => rfl), h]
theorem stA_size {x : St V} (h : x.vars.length = 8) : (stA e x).size = 17 := by unfold stA; simpa using stL_len e h
theorem isOne_stL (x : St V) : (stL e x).all isOne = true := by
 unfold stL
 rw [List.all_cons, List.all_flatMap]
 simp [isOne, Emb.l]
theorem isOne_stA (x : St V) : (stA e x).toList.all isOne = true := isOne_stL e x
theorem row_mid {p q r : List Value} {t : Nat} {f : Nat × Nat} {i n : Nat} (hi : p.length = i) (hn : q.length = n) : blkRow (some (.cells (p ++ (q ++ r)).toArray t f)) i n = some (.agg q.toArray) := by
 subst hi; subst hn
 unfold blkRow
 simp only
 rw [if_pos (by simp)]
 congr 2
 apply Array.toList_inj.1
 simp [List.extract_eq_take_drop]
theorem heap_putL_ne {b c : Nat} (h : c ≠ b) : ∀ (vs : List Value) (i : Nat) (w : World), (putL w b i vs).heap[c]? = w.heap[c]?
 | [], _, _ => rfl
 | v :: vs, i, w => by rw [putL, heap_putL_ne h vs]; exact heap_put_ne h
theorem size_putL (b : Nat) : ∀ (vs : List Value) (i : Nat) (w : World), (putL w b i vs).heap.size = w.heap.size
 | [], _, _ => rfl
 | v :: vs, i, w => by rw [putL, size_putL b vs]; exact size_put _ _
theorem st_some (x : St V) (t : Nat) (f : Nat × Nat) : blkCell (some (.cells (stA e x) t f)) 0 = some (.bool x.some) := by
 unfold blkCell stA stL; simp
theorem st_split {x : St V} {v : Nat} {d : V} (h : x.vars.length = 8) (hv : v < 8) : stL e x = (.bool x.some :: (x.vars.take v).flatMap e.l) ++ (e.l (x.vars.getD v d) ++ (x.vars.drop (v + 1)).flatMap e.l) ∧ (Value.bool x.some :: (x.vars.take v).flatMap e.l).length = 1 + v * 2 := by
 have hv' : v < x.vars.length := by omega
 refine ⟨?_, ?_⟩
 ·unfold stL
  rw [flat_split hv']
  simp [List.getD_eq_getElem?_getD, hv']
 ·rw [List.length_cons, take_len (k := 2) (fun _ _ => rfl) hv']; omega
theorem st_get {x : St V} {v : Nat} {t : Nat} {f : Nat × Nat} (d : V) (h : x.vars.length = 8) (hv : v < 8) : blkRow (some (.cells (stA e x) t f)) (1 + v * 2) 2 = some (e.v (x.vars.getD v d)) := by
 obtain ⟨h1, h2⟩ := st_split e (d := d) h hv
 unfold stA; rw [h1]
 exact row_mid h2 rfl
theorem st_all {x : St V} {t : Nat} {f : Nat × Nat} (h : x.vars.length = 8) : blkRow (some (.cells (stA e x) t f)) 0 17 = some (.agg (stA e x)) := by
 have := row_mid (p := []) (q := stL e x) (r := []) (t := t) (f := f) rfl (stL_len e h)
 simpa [stA] using this
theorem st_ok {x : St V} {t i n : Nat} (h : x.vars.length = 8) (hi : i + n ≤ 17) : okRow (some (.cells (stA e x) t (0, 0))) i n = true := by
 have := stA_size e h
 simp [okRow, this, hi]
theorem fc_split {fs : List (St V)} {i : Nat} {d : St V} (h : ∀ x ∈ fs, x.vars.length = 8) (hi : i < fs.length) : fs.flatMap (stL e) = (fs.take i).flatMap (stL e) ++ (stL e (fs.getD i d) ++ (fs.drop (i + 1)).flatMap (stL e)) ∧ ((fs.take i).flatMap (stL e)).length = i * 17 := by
 refine ⟨?_, take_len (fun x hx => stL_len e (h x hx)) hi⟩
 rw [flat_split hi]
 simp [List.getD_eq_getElem?_getD, hi]
theorem mem_getD {α : Type} {l : List α} {i : Nat} {d : α} (hi : i < l.length) : l.getD i d ∈ l := by
 rw [List.getD_eq_getElem?_getD, List.getElem?_eq_getElem hi]; exact List.getElem_mem hi
theorem fc_get {fs : List (St V)} {i t : Nat} {f : Nat × Nat} (d : St V) (h : ∀ x ∈ fs, x.vars.length = 8) (hi : i < fs.length) : blkRow (some (.cells (fcA e fs) t f)) (i * 17) 17 = some (.agg (stA e (fs.getD i d))) := by
 obtain ⟨h1, h2⟩ := fc_split e (d := d) h hi
 unfold fcA; rw [h1]
 exact row_mid h2 (stL_len e (h _ (mem_getD hi)))
theorem fc_size {fs : List (St V)} (h : ∀ x ∈ fs, x.vars.length = 8) : (fcA e fs).size = fs.length * 17 := by
 unfold fcA; rw [List.size_toArray, flat_len (fun x hx => stL_len e (h x hx))]
theorem fc_ok {fs : List (St V)} {t i : Nat} (h : ∀ x ∈ fs, x.vars.length = 8) (hi : i < fs.length) : okRow (some (.cells (fcA e fs) t (0, 0))) (i * 17) 17 = true := by
 have := fc_size e h
 simp [okRow, this]; omega
end
def setR (c : Array Value) (i : Nat) : List Value → Array Value
 | [] => c
 | v :: r => setR (c.setIfInBounds i v) (i + 1) r
def rowObj (i : Nat) (vs : List Value) : Obj → Obj
 | .cells c t f => .cells (setR c i vs) t f
 | x => x
theorem get_putL (b c : Nat) : ∀ (vs : List Value) (i : Nat) (w : World), (putL w b i vs).heap[c]? = if c = b then (w.heap[b]?).map (rowObj i vs) else w.heap[c]?
 | [], i, w => by
   split
   ·rename_i h; subst h
    show w.heap[c]? = _
    cases w.heap[c]? with
    | none => rfl
    | some o => cases o <;> rfl
   ·rfl
 | v :: vs, i, w => by
   rw [putL, get_putL b c vs]
   split
   ·rename_i h; subst h
    rw [heap_put_self]
    cases w.heap[c]? with
    | none => rfl
    | some o => cases o <;> rfl
   ·rename_i h; exact heap_put_ne h
theorem setR_mid {r : List Value} : ∀ (vs p q : List Value), q.length = vs.length → setR (p ++ (q ++ r)).toArray p.length vs = (p ++ (vs ++ r)).toArray
 | [], p, q, hq => by
   have : q = [] := List.length_eq_zero_iff.1 hq
   subst this; rfl
 | v :: vs, p, [], hq => by cases hq
 | v :: vs, p, c :: q, hq => by
   have h2 := setR_mid (r := r) vs (p ++ [v]) q (by simpa using hq)
   rw [List.length_append] at h2
   have e : (p ++ (c :: q ++ r)).toArray.setIfInBounds p.length v = ((p ++ [v]) ++ (q ++ r)).toArray := by
    apply Array.toList_inj.1
    simp
   rw [setR, e]
   have h3 : p.length + [v].length = p.length + 1 := rfl
   rw [h3] at h2
   rw [h2]
   simp
section
variable {V : Type} (e : Emb V)
theorem row_st {x y : St V} {t : Nat} {f : Nat × Nat} (h : x.vars.length = 8) (h2 : y.vars.length = 8) : Option.map (rowObj 0 (stA e y).toList) (some (.cells (stA e x) t f)) = some (.cells (stA e y) t f) := by
 have := setR_mid (r := []) (stL e y) [] (stL e x) (by rw [stL_len e h, stL_len e h2])
 simp only [Option.map_some, rowObj]
 congr 2
 simpa [stA] using this
theorem row_set {x : St V} {v t : Nat} {f : Nat × Nat} (u : V) (h : x.vars.length = 8) (hv : v < 8) : Option.map (rowObj (1 + v * 2) [.int .i64 (e.a u), .int .i64 (e.b u)]) (some (.cells (stA e x) t f)) = some (.cells (stA e (setSt v u x)) t f) := by
 obtain ⟨h1, h2⟩ := st_split e (d := u) h hv
 simp only [Option.map_some, rowObj]
 congr 2
 unfold stA
 have := setR_mid (r := (x.vars.drop (v + 1)).flatMap e.l) [.int .i64 (e.a u), .int .i64 (e.b u)] (Value.bool x.some :: (x.vars.take v).flatMap e.l) (e.l (x.vars.getD v u)) rfl
 rw [h1, ← h2, this]
 unfold stL setSt
 simp only
 rw [flat_set u (by omega)]
 rfl
theorem row_fc {fs : List (St V)} {i t : Nat} {f : Nat × Nat} {y : St V} (h : ∀ x ∈ fs, x.vars.length = 8) (hi : i < fs.length) (hy : y.vars.length = 8) : Option.map (rowObj (i * 17) (stA e y).toList) (some (.cells (fcA e fs) t f)) = some (.cells (fcA e (fs.set i y)) t f) := by
 obtain ⟨h1, h2⟩ := fc_split e (d := y) h hi
 simp only [Option.map_some, rowObj]
 congr 2
 unfold fcA
 rw [h1, ← h2]
 have := setR_mid (r := (fs.drop (i + 1)).flatMap (stL e)) (stL e y) ((fs.take i).flatMap (stL e)) (stL e (fs.getD i y)) (by rw [stL_len e hy, stL_len e (h _ (mem_getD hi))])
 rw [show (stA e y).toList = stL e y from rfl, this, flat_set y hi]
end
end Go.Inv
namespace Go.Inv
open Go.Sh
abbrev tyI16 : Nat := 55
theorem u40 : pr.underlying tyI16 = some (.int .i16) := by kernel_rfl
theorem u3 : pr.underlying tyInt = some (.int .i64) := by kernel_rfl
theorem co40 : pr.cellsOf tyI16 = 1 := by kernel_rfl
theorem eqItems_self (d : Nat) (xs : Array Value) (w : World) : ∀ is : List Nat, (∀ i ∈ is, ∃ a, xs[i]? = some (i16 a)) → (Op.eqItems (d + 1) tyI16 1 xs xs is).run pr w = .ok true w
 | [], _ => by simp [Op.eqItems]
 | i :: is, h => by
   obtain ⟨a, ha⟩ := h i (by simp)
   have hp : (part tyI16 xs (i * 1)).run pr w = .ok (i16 a) w := by simp [part, isAgg, run_underlying u40, ha]
   have ih := eqItems_self d xs w is fun j hj => h j (by simp [hj])
   simp only [Op.eqItems, Sem.run_bind, hp, Result.andThen_ok, run_equalIn_int w d tyI16 .i16 .i16 a a u40, beq_self_eq_true, Bool.not_true, Bool.false_eq_true, if_false, ih]
theorem u94 : pr.underlying tyStore = some (.array 8 tyI16) := by kernel_rfl
theorem st96 : pr.stoodInHeld tyVisit = false := by kernel_rfl
theorem eg96 : pr.eqGuardType pr.depth tyVisit = false := by kernel_rfl
theorem u96 : pr.underlying tyVisit = some (.struct (pr.fieldsOf tyVisit)) := by kernel_rfl
theorem f96 : ∃ f g, (pr.fieldsOf tyVisit).toList = [f, g] ∧ f.name = "Point" ∧ g.name = "Store" ∧ f.type = tyInt ∧ f.offset = 0 ∧ g.type = tyStore ∧ g.offset = 1 :=
 ⟨(pr.fieldsOf tyVisit).toList[0]!, (pr.fieldsOf tyVisit).toList[1]!, by kernel_rfl, by kernel_rfl, by kernel_rfl, by kernel_rfl, by kernel_rfl, by kernel_rfl, by kernel_rfl⟩
theorem i40 : ∃ i, pr.info? tyI16 = some i := by
 have : (pr.info? tyI16).isSome = true := by kernel_rfl
 exact Option.isSome_iff_exists.mp this
theorem eqVis_self (d : Nat) (p : Int) (s : Store) (hs : s.length = 8) (w : World) : (Op.equalIn (d + 4) tyVisit (.agg (vi p :: s.map i16).toArray) (.agg (vi p :: s.map i16).toArray)).run pr w = .ok true w := by
 rw [run_equalIn_struct w (d + 3) tyVisit _ _ u96 st96]
 obtain ⟨f, g, hfg, hf, hg, ft, fo, gt, go⟩ := f96
 obtain ⟨h1, h2⟩ := aggT_spec (w := w) ag57
 obtain ⟨i, hi⟩ := i40
 have hp1 : (part tyInt (vi p :: s.map i16).toArray 0).run pr w = .ok (vi p) w := by simp [part, isAgg, run_underlying u3]
 have hext : (vi p :: s.map i16).toArray.extract 1 (1 + 8) = (s.map i16).toArray := by
  simp [List.extract_toArray]
  exact List.take_of_length_le (by simp [hs])
 have hp2 : (part tyStore (vi p :: s.map i16).toArray 1).run pr w = .ok (.agg (s.map i16).toArray) w := by
  unfold part
  simp only [Sem.run_bind, h1, h2, Result.andThen_ok, if_true, hext, Sem.run_pure]
 have hst : (Op.equalIn (d + 3) tyStore (.agg (s.map i16).toArray) (.agg (s.map i16).toArray)).run pr w = .ok true w := by
  rw [run_equalIn_array w (d + 2) _ _ u94 hi, co40]
  refine eqItems_self (d + 1) _ w _ fun j hj => ?_
  have : j < s.length := by rw [hs]; simpa using hj
  exact ⟨s[j], by simp [this]⟩
 rw [hfg]
 have n1 : f.name ≠ "_" := by rw [hf]; decide
 have n2 : g.name ≠ "_" := by rw [hg]; decide
 simp only [Op.eqFields, ne_eq, n1, n2, not_false_eq_true, if_true, Sem.run_bind, ft, fo, gt, go, hp1, hp2, Result.andThen_ok, run_equalIn_int w (d + 2) tyInt .i64 .i64 p p u3, beq_self_eq_true, Bool.not_true, Bool.false_eq_true, if_false, hst]
 rfl
theorem neq_vis (p : Int) (s : Store) (hs : s.length = 8) (w : World) : (sBin .neq tyVisit (.agg (vi p :: s.map i16).toArray) (.agg (vi p :: s.map i16).toArray) tyVisit).run pr w = .ok (.value (.bool false)) w := by
 simp only [sBin, execOp]
 simp [ev, run_eqGuard_agg w _ _ _ _ _ _ eg96, run_neq_struct, eqVis_self 9996 p s hs w]
end Go.Inv
namespace Go.Inv.Iv
open Go.Sh
structure DomN where
 only : Nat
 whole : Nat
 minus : Nat
 two : Nat
 join : Nat
 meet : Nat
 zero : Nat
 bounds : Nat
 widen : Nat
 narrow : Nat
 tell : Nat
 solve : Nat
structure SvC (V : Type) where
 B : Nat
 s : Nat
 fb : Nat
 sb : Nat
 P : Nat
 S : Nat
 d : Int
 thr : Bool
 cfg : Cfg
 N : SvN
 e : Emb V
 D : Dom V
 O : DomInv D
 dom : Value
 rv : Value
 Env : World → Prop
 m : DomN
section
variable {V : Type}
abbrev SvC.n0 (C : SvC V) : St V := noS C.D
abbrev SvC.sA (C : SvC V) (x : St V) : Array Value := stA C.e x
abbrev SvC.sv (C : SvC V) (x : St V) : Value := .agg (C.sA x)
abbrev SvC.spC (C : SvC V) (x : V) : Obj := .cells #[vi (C.e.a x), vi (C.e.b x)] C.N.v (0, 0)
end
class SvC.Ok {V : Type} (C : SvC V) : Prop where
 sf : C.s ≠ C.fb
 ss : C.s ≠ C.sb
 fs : C.fb ≠ C.sb
 bs : C.B ≤ C.s
 bf : C.B ≤ C.fb
 bb : C.B ≤ C.sb
 nt : SvT C.N
 nr : SvR C.N
 eold : ∀ {w w' : World}, C.Env w → Old w w' → C.Env w'
 eput : ∀ {w : World} {k i : Nat} {v : Value}, C.Env w → C.B ≤ k → C.Env (put w k i v)
 alV : ∀ w : World, (sAlloc C.N.v).run pr w = .ok (.value (pt w.heap.size 0)) (w.alloc (.cells #[vi 0, vi 0] C.N.v))
 alS : ∀ w : World, (sAlloc C.N.st).run pr w = .ok (.value (pt w.heap.size 0)) (w.alloc (.cells (C.sA C.n0) C.N.st))
 bdS : ∀ w : World, (sBuild C.N.st []).run pr w = .ok (.value (C.sv C.n0)) w
 alD : ∀ w : World, (sAlloc C.N.sd).run pr w = .ok (.value (pt w.heap.size 0)) (w.alloc (.cells #[.nilIface, vi 0, vi 0] C.N.sd))
 bdD : ∀ (t : Nat) (u : Value) (a b : Int) (w : World), (sBuild C.N.sd [(0, .iface t u), (1, .agg #[vi a, vi b])]).run pr w = .ok (.value (.agg #[.iface t u, vi a, vi b])) w
 bsD : ∀ (t t' : Nat) (u u' : Value) (a b a' b' : Int) (w : World), (sBuildSlice C.N.sr 2 [(0, .agg #[.iface t u, vi a, vi b]), (1, .agg #[.iface t' u', vi a', vi b'])]).run pr w =
  .ok (.value (.slice (some ⟨w.heap.size, 0, none⟩) 2 2)) (w.alloc (.cells #[.iface t u, vi a, vi b, .iface t' u', vi a', vi b'] C.N.sd))
 elA : elemA pr C.N.ar = some (8, 2)
 elR : elemT pr C.N.tr = some 17
 elS : elemT pr C.N.sr = some 3
 ty1 : ¬ SumTy C.N.so
 ty2 : ¬ SumTy C.N.st
 eqS : ∀ {x y : St V} (w : World), x.vars.length = 8 → y.vars.length = 8 → ∃ b : Bool, (sBin .eql C.N.st (C.sv x) (C.sv y) C.N.st).run pr w = .ok (.value (.bool b)) w ∧ (b = true ↔ x = y)
 okF : okFn pr C.N.f_split_1 = true
 nilD : ∀ w : World, (sNil C.dom).run pr w = .ok (.value C.dom) w
 iOnly : ∀ a w, (sInvoke C.dom "Only" [a]).run pr w = .ok (.enter C.m.only #[C.rv, a]) w
 iWhole : ∀ w, (sInvoke C.dom "Whole" []).run pr w = .ok (.enter C.m.whole #[C.rv]) w
 iMinus : ∀ a w, (sInvoke C.dom "Minus" [a]).run pr w = .ok (.enter C.m.minus #[C.rv, a]) w
 iTwo : ∀ a b c w, (sInvoke C.dom "Two" [a, b, c]).run pr w = .ok (.enter C.m.two #[C.rv, a, b, c]) w
 iJoin : ∀ a b w, (sInvoke C.dom "Join" [a, b]).run pr w = .ok (.enter C.m.join #[C.rv, a, b]) w
 iMeet : ∀ a b w, (sInvoke C.dom "Meet" [a, b]).run pr w = .ok (.enter C.m.meet #[C.rv, a, b]) w
 iZero : ∀ a w, (sInvoke C.dom "Zero" [a]).run pr w = .ok (.enter C.m.zero #[C.rv, a]) w
 iBounds : ∀ a b c w, (sInvoke C.dom "Bounds" [a, b, c]).run pr w = .ok (.enter C.m.bounds #[C.rv, a, b, c]) w
 iWiden : ∀ a b w, (sInvoke C.dom "Widen" [a, b]).run pr w = .ok (.enter C.m.widen #[C.rv, a, b]) w
 iNarrow : ∀ a b w, (sInvoke C.dom "Narrow" [a, b]).run pr w = .ok (.enter C.m.narrow #[C.rv, a, b]) w
 iTell : ∀ a w, (sInvoke C.dom "Tell" [a]).run pr w = .ok (.enter C.m.tell #[C.rv, a]) w
 cOnly : ∀ (n : Int) w, Calls pr C.m.only #[C.rv, vi n] w (Ret (C.e.v (C.D.only n)) w)
 cWhole : ∀ w, Calls pr C.m.whole #[C.rv] w (Ret (C.e.v C.D.whole) w)
 cMinus : ∀ {x w}, C.O.inv x → C.Env w → Calls pr C.m.minus #[C.rv, C.e.v x] w (Ret (C.e.v (C.D.minus x)) w)
 cTwo : ∀ {g : UInt8} {x y w}, SignOk g → C.O.inv x → C.O.inv y → C.Env w → Calls pr C.m.two #[C.rv, .int .u8 g.toNat, C.e.v x, C.e.v y] w (Ret (tup2 (C.e.v (C.D.two g x y).1) (C.D.two g x y).2) w)
 cJoin : ∀ {x y w}, C.O.inv x → C.O.inv y → Calls pr C.m.join #[C.rv, C.e.v x, C.e.v y] w (Ret (C.e.v (C.D.join x y)) w)
 cMeet : ∀ {x y w}, C.O.inv x → C.O.binv y → Calls pr C.m.meet #[C.rv, C.e.v x, C.e.v y] w (Ret (tup2 (C.e.v (C.D.meet x y).1) (C.D.meet x y).2) w)
 cZero : ∀ x w, Calls pr C.m.zero #[C.rv, C.e.v x] w (Ret (.bool (C.D.zero x)) w)
 cBounds : ∀ {l r : V} {k : Nat} {w}, k < 6 → C.O.inv l → C.O.inv r → Calls pr C.m.bounds #[C.rv, C.e.v l, vi k, C.e.v r] w (Ret (.tuple #[C.e.v (C.D.bounds l k r).1, C.e.v (C.D.bounds l k r).2.1, .bool (C.D.bounds l k r).2.2.1, .bool (C.D.bounds l k r).2.2.2]) w)
 cWiden : ∀ {x y w}, C.Env w → Calls pr C.m.widen #[C.rv, C.e.v x, C.e.v y] w (Ret (C.e.v (C.D.widen x y)) w)
 cNarrow : ∀ x y w, Calls pr C.m.narrow #[C.rv, C.e.v x, C.e.v y] w (Ret (C.e.v (C.D.narrow x y)) w)
 cTell : ∀ x w, Calls pr C.m.tell #[C.rv, C.e.v x] w (Ret (C.e.v x) w)
section
variable {V : Type} {C : SvC V} [hC : C.Ok]
def RT7 := RT7n hC.nt
structure SvAt (C : SvC V) (w : World) (a : AS V) (q : Nat) : Prop where
 sol : w.heap[C.s]? = some (.cells #[C.dom, vi C.d, vi C.cfg.delay, vi C.cfg.narrow, vi C.cfg.unroll, .bool C.thr, .slice (some ⟨C.fb, 0, none⟩) C.P C.P, .slice (some ⟨C.sb, 0, none⟩) C.S C.S, vi q] C.N.so (0, 0))
 fc : w.heap[C.fb]? = some (.cells (fcA C.e a.facts) C.N.st (0, 0))
 sc : w.heap[C.sb]? = some (.cells (a.sites.map fun n : Nat => vi n).toArray 3 (0, 0))
 st : C.Env w
structure FrS (C : SvC V) (w w' : World) : Prop where
 size : w.heap.size ≤ w'.heap.size
 old : ∀ c, c < w.heap.size → c ≠ C.s → c ≠ C.fb → c ≠ C.sb → w'.heap[c]? = w.heap[c]?
 out : Out w w'
theorem FrS.refl (C : SvC V) (w : World) : FrS C w w := ⟨Nat.le_refl _, fun _ _ _ _ _ => rfl, .refl _⟩
theorem FrS.trans {a b c : World} (h : FrS C a b) (g : FrS C b c) : FrS C a c :=
 ⟨Nat.le_trans h.size g.size, fun i hi h1 h2 h3 => (g.old i (Nat.lt_of_lt_of_le hi h.size) h1 h2 h3).trans (h.old i hi h1 h2 h3), h.out.trans g.out⟩
end
end Go.Inv.Iv
namespace Go.Inv
open Go.Sh
section
variable {V : Type} {C : Iv.SvC V}
theorem Old.frS {a b : World} (h : Old a b) : Iv.FrS C a b := ⟨h.size, fun c hc _ _ _ => h.old c hc, h.out⟩
end
end Go.Inv
namespace Go.Inv.Iv
open Go.Sh
section
variable {V : Type} {C : SvC V} [hC : C.Ok]
theorem FrS.dr {a b : World} (h : FrS C a b) : FrS C a (dr b) := ⟨h.size, h.old, h.out.dr⟩
theorem FrS.heap {a b : World} (h : FrS C a b) {c : Nat} {y : Obj} (hc : a.heap[c]? = some y) (h1 : c ≠ C.s) (h2 : c ≠ C.fb) (h3 : c ≠ C.sb) : b.heap[c]? = some y := by
 rw [h.old c (lt_of_heap hc) h1 h2 h3]; exact hc
theorem FrS.put {a b : World} (h : FrS C a b) {k i : Nat} {v : Value} (hk : k = C.s ∨ k = C.fb ∨ k = C.sb ∨ a.heap.size ≤ k) : FrS C a (put b k i v) :=
 ⟨by rw [size_put]; exact h.size, fun c hc h1 h2 h3 => by rw [heap_put_ne (by omega)]; exact h.old c hc h1 h2 h3, h.out.put⟩
theorem FrS.putL {a : World} {k : Nat} (hk : k = C.s ∨ k = C.fb ∨ k = C.sb ∨ a.heap.size ≤ k) : ∀ {vs : List Value} {i : Nat} {b : World}, FrS C a b → FrS C a (Sh.putL b k i vs)
 | [], _, _, h => h
 | _ :: vs, i, b, h => FrS.putL (vs := vs) hk (FrS.put h hk)
end
end Go.Inv.Iv
namespace Go.Inv
open Go.Sh
theorem Old.putL {a : World} {k : Nat} (hk : a.heap.size ≤ k) : ∀ {vs : List Value} {i : Nat} {b : World}, Old a b → Old a (Sh.putL b k i vs)
 | [], _, _, h => h
 | _ :: vs, i, b, h => Old.putL (vs := vs) hk (Old.put h hk)
end Go.Inv
namespace Go.Inv.Iv
open Go.Sh
section
variable {V : Type} {C : SvC V} [hC : C.Ok]
theorem SvAt.ls {w : World} {a : AS V} {q : Nat} (h : SvAt C w a q) : C.s < w.heap.size ∧ C.fb < w.heap.size ∧ C.sb < w.heap.size := ⟨lt_of_heap h.sol, lt_of_heap h.fc, lt_of_heap h.sc⟩
theorem SvAt.old {w w' : World} {a : AS V} {q : Nat} (h : SvAt C w a q) (ho : Old w w') : SvAt C w' a q :=
 ⟨ho.heap h.sol, ho.heap h.fc, ho.heap h.sc, hC.eold h.st ho⟩
theorem SvAt.dr {w : World} {a : AS V} {q : Nat} (h : SvAt C w a q) : SvAt C (dr w) a q := h.old ((Old.refl w).dr)
theorem int_putL {k : Nat} (hk : C.B ≤ k) : ∀ {vs : List Value} {i : Nat} {w : World}, C.Env w → C.Env (Sh.putL w k i vs)
 | [], _, _, h => h
 | _ :: vs, i, w, h => int_putL hk (vs := vs) (hC.eput h hk)
theorem gE5 (a b c d e f : Value) (l : List Value) : (a :: b :: c :: d :: e :: f :: l).toArray[5]? = some f := by simp
theorem gE6 (a b c d e f g : Value) (l : List Value) : (a :: b :: c :: d :: e :: f :: g :: l).toArray[6]? = some g := by simp
theorem gE7 (a b c d e f g h : Value) (l : List Value) : (a :: b :: c :: d :: e :: f :: g :: h :: l).toArray[7]? = some h := by simp
theorem gE8 (a b c d e f g h i : Value) (l : List Value) : (a :: b :: c :: d :: e :: f :: g :: h :: i :: l).toArray[8]? = some i := by simp
def GE := And.intro gE5 <| And.intro gE6 <| And.intro gE7 gE8
def SvP (C : SvC V) (w : World) (q : Nat) (v : Value) (a : AS V) : Ending → World → Prop := fun e w' => e = .returned v ∧ FrS C w w' ∧ SvAt C w' a q
abbrev rcd (q : Nat) : Bool := decide (q = 0)
theorem set_map (l : List Nat) (i v : Nat) : ((l.map fun n : Nat => vi n).toArray).setIfInBounds i (vi v) = ((l.set i v).map fun n : Nat => vi n).toArray := by simp
theorem getSite {l : List Nat} {i t : Nat} {f : Nat × Nat} (h : i < l.length) : blkCell (some (.cells ((l.map fun n : Nat => vi n).toArray) t f)) i = some (vi (l.getD i 0 : Nat)) := by
 unfold blkCell; simp [h, List.getD_eq_getElem?_getD]
theorem SvAt.site {w : World} {a : AS V} {q : Nat} (h : SvAt C w a q) (i v : Nat) : SvAt C (put w C.sb i (vi v)) { a with sites := a.sites.set i v } q :=
 ⟨by rw [heap_put_ne hC.ss]; exact h.sol, by rw [heap_put_ne hC.fs]; exact h.fc, by rw [heap_put_self, h.sc, Option.map_some, setObj', set_map], hC.eput h.st hC.bb⟩
theorem rIAs22 (b n c i : Nat) (h : i < n) : Pur pr (sIA 22 (.slice (some ⟨b, 0, none⟩) n c) (vi i)) (pt b i) := by
 have := pur_IAs (b := b) (off := 0) (n := n) (c := c) el22 (Int.natCast_nonneg i) (by omega : (i : Int) < n)
 simpa using this
theorem condJ {p : Prop} [Decidable p] {b : Bool} {x y : Prop} (h : b = decide p) (h1 : p → x) (h2 : ¬ p → y) : condP (.bool b) x y := by
 subst h
 refine condP_split (fun h => h1 (of_decide_eq_true h)) (fun h => h2 (of_decide_eq_false h))
theorem tell_ok {w : World} {a : AS V} {q : Nat} {site : Int} {bad : Bool} (h : SvAt C w a q) (hS : a.sites.length = C.S) (hs : site < C.S) :
 Calls pr C.N.f_tell #[pt C.s 0, vi site, .bool bad] w (SvP C w q (.tuple #[]) (tellA (rcd q) site bad a)) := by
 refine hC.nr.tell _ _ _ _ _ ?_
 unfold sv_tell
 have nop : (!rcd q || decide (site < 0)) = true → SvP C w q (.tuple #[]) (tellA (rcd q) site bad a) (.returned (.tuple #[])) w := fun hc => by
  unfold tellA; rw [if_pos hc]; exact ⟨rfl, .refl _ _, h⟩
 simp only [↓RT7, ↓RT7c, ↓RT, ↓RG, RV, GE, h.sol]
 by_cases hq : q = 0
 ·subst hq
  have d : decide ((((0 : Nat) : Int)) > 0) = false := rfl
  simp only [d, ↓RT7, ↓RT7c, ↓RT, ↓RG, RV, GE, h.sol]
  refine condJ (p := site < 0) rfl (fun h0 => nop (by simp [h0])) (fun h0 => ?_)
  obtain ⟨i, rfl⟩ : ∃ i : Nat, site = i := ⟨site.toNat, by omega⟩
  have hi : i < C.S := by omega
  have hi' : i < a.sites.length := by omega
  have hr : (!rcd 0 || decide ((i : Int) < 0)) = false := by simp
  have e : tellA (rcd 0) i bad a = if bad = true then { a with sites := a.sites.set i 2 } else if a.sites.getD i 0 = 0 then { a with sites := a.sites.set i 1 } else a := by
   unfold tellA; rw [if_neg (by rw [hr]; simp)]; simp
  rw [e]
  have pur := rIAs22 C.sb C.S C.S i hi
  have dI : decide (i < a.sites.length) = true := decide_eq_true hi'
  refine condJ (p := bad = true) (by simp) (fun hb => ?_) (fun hb => ?_)
  ·simp only [hb, ↓RT7, ↓RT7c, ↓RT, ↓RG, RV, GE, h.sol, pur.o, h.sc, List.length_map, dI,  ↓reduceIte, isOne, Bool.and_self, Bool.true_and]
   exact ⟨rfl, (FrS.refl C w).put (by omega), h.site i 2⟩
  ·simp only [hb, ↓RT7, ↓RT7c, ↓RT, ↓RG, RV, GE, h.sol, pur.o, h.sc, getSite hi', Bool.false_eq_true, ↓reduceIte]
   by_cases hz : a.sites.getD i 0 = 0
   ·rw [hz]
    have : (((0 : Nat) : Int) == 0) = true := rfl
    simp only [this, ↓RT7, ↓RT7c, ↓RT, ↓RG, RV, GE, h.sol, pur.o, h.sc, List.length_map, dI,  ↓reduceIte, isOne, Bool.and_self, Bool.true_and]
    exact ⟨rfl, (FrS.refl C w).put (by omega), h.site i 1⟩
   ·have : (((a.sites.getD i 0 : Nat) : Int) == 0) = false := by simpa using hz
    simp only [this, ↓RT7, ↓RT7c, ↓RT, ↓RG, RV, GE, if_neg hz]
    exact ⟨rfl, .refl _ _, h⟩
 ·have d : decide ((q : Int) > 0) = true := by simp; omega
  simp only [d, ↓RT7, ↓RT7c, ↓RT, ↓RG, RV, GE, cond_true]
  exact nop (by simp [hq])
end
end Go.Inv.Iv
namespace Go.Inv
open Go.Sh
theorem ag51_ShAc : aggT pr 51 = some 2 := by kernel_rfl
theorem ag100 : aggT pr 100 = some 2 := by kernel_rfl
theorem ag104 : aggT pr 104 = some 0 := by kernel_rfl
theorem fo100_0 : fieldOff pr 100 0 = some 0 := by kernel_rfl
theorem fo100_1 : fieldOff pr 100 1 = some 1 := by kernel_rfl
theorem ik62 : isIntK pr 62 .u64 = true := by kernel_rfl
def RT6 := (And.intro (And.intro (And.intro (And.intro (And.intro (rLoad pl3) (raLoad pl3)) (And.intro (rkLoad pl3) (rStore pl3))) (And.intro (And.intro (rLoadA ag51_ShAc) (raLoadA ag51_ShAc)) (And.intro (rkLoadA ag51_ShAc) (And.intro (rStoreA ag51_ShAc) (rLoadA ag100))))) (And.intro (And.intro (And.intro (raLoadA ag100) (rkLoadA ag100)) (And.intro (rStoreA ag100) (And.intro (rLoadA ag104) (raLoadA ag104)))) (And.intro (And.intro (rkLoadA ag104) (rStoreA ag104)) (And.intro (rFA fo100_0) (And.intro (rzFA fo100_0) (rFA fo100_1)))))) (And.intro (And.intro (And.intro (And.intro (rzFA fo100_1) (rConv ik3 ik3)) (And.intro (rzConv ik3 ik3) (rConv ik3 ik55))) (And.intro (And.intro (rzConv ik3 ik55) (rConv ik3 ik62)) (And.intro (rzConv ik3 ik62) (And.intro (rConv ik55 ik3) (rzConv ik55 ik3))))) (And.intro (And.intro (And.intro (rConv ik55 ik55) (rzConv ik55 ik55)) (And.intro (rConv ik55 ik62) (And.intro (rzConv ik55 ik62) (rConv ik62 ik3)))) (And.intro (And.intro (rzConv ik62 ik3) (rConv ik62 ik55)) (And.intro (rzConv ik62 ik55) (And.intro (rConv ik62 ik62) (rzConv ik62 ik62)))))))
def sh_domain_Class_in (K : Value → World → Prop) (E : PanicK) (a0 a1 : Value) (w : World) : Prop :=
 o pr E w (sBox 100 a0) fun t2 w =>
 o pr E w (sFA 100 t2 0) fun t5 w =>
 o pr E w (sLoad 3 t5) fun t6 w =>
 o pr E w (sBinC .eql 3 t6 (Value.int IntKind.i64 0) 3) fun t7 w =>
 condP t7 (o pr E w (sFA 100 t2 1) fun t9 w =>
 o pr E w (sLoad 3 t9) fun t10 w =>
 o pr E w (sBin .eql 3 a1 t10 3) fun t11 w =>
 K t11 w)
  (o pr E w (sFA 100 t2 1) fun t13 w =>
 o pr E w (sLoad 3 t13) fun t14 w =>
 o pr E w (sBin .sub 3 a1 t14 3) fun t15 w =>
 o pr E w (sFA 100 t2 0) fun t16 w =>
 o pr E w (sLoad 3 t16) fun t17 w =>
 cl pr E w n_domain_left #[t15, t17] fun t18 w =>
 o pr E w (sBinC .eql 3 t18 (Value.int IntKind.i64 0) 3) fun t19 w =>
 K t19 w)
def lv_domain_Class_in : Lives := [(1, [1, 2]), (2, [1, 2, 7]), (3, [1, 2])]
theorem sh_domain_Class_in_ok (a0 a1 : Value) (w : World) (R : Ending → World → Prop)
 (h : sh_domain_Class_in (fun v w => R (.returned v) w) (fun c w => R (.panicked c) w) a0 a1 w) : Calls pr n_domain_Class_in #[a0, a1] w R :=
 calls_of_W (A := lv_domain_Class_in) enters mixed Go.Proofs.Tryz.func106 (by kernel_rfl) (by kernel_rfl) (by kernel_rfl)
  (Eq.mp (by kernel_rfl) h)
def sh_dc_Bounds (K : Value → World → Prop) (E : PanicK) (a0 a1 a2 a3 : Value) (w : World) : Prop :=
 o pr E w (sBox 104 a0) fun t4 w =>
 o pr E w (sBox 100 a1) fun t5 w =>
 o pr E w (sBox 100 a3) fun t7 w =>
 o pr E w (sAlloc 100) fun t8 w =>
 o pr E w (sAlloc 100) fun t9 w =>
 (fun (k1 : Value → World → Prop) =>
 o pr E w (sFA 100 t5 0) fun t12 w =>
 o pr E w (sLoad 3 t12) fun t13 w =>
 o pr E w (sBinC .eql 3 t13 (Value.int IntKind.i64 0) 3) fun t14 w =>
 (fun (q1 : Value → World → Prop) =>
 condG t14 true (o pr E w (sFA 100 t7 0) fun t16 w =>
 o pr E w (sLoad 3 t16) fun t17 w =>
 o pr E w (sBinC .eql 3 t17 (Value.int IntKind.i64 0) 3) fun t18 w =>
 q1 t18 w)
  (q1 undef w))
 (fun t18_1 w =>
 o pr E w (sPick t14 t18_1 (Value.bool false)) fun t19 w =>
 condG t19 true (o pr E w (sFA 100 t5 1) fun t22 w =>
 o pr E w (sLoad 3 t22) fun t23 w =>
 o pr E w (sFA 100 t7 1) fun t24 w =>
 o pr E w (sLoad 3 t24) fun t25 w =>
 cl pr E w n_tree_Rel_Holds #[a2, t23, t25] fun t26 w =>
 o pr E w (sUn .not 4 t26) fun t27 w =>
 o pr E w (sPick t19 t27 (Value.bool false)) fun t28_1 w =>
 k1 t28_1 w)
  (o pr E w (sPick t19 undef (Value.bool false)) fun t28_2 w =>
 k1 t28_2 w)))
 (fun t28 w =>
 condP t28 ((fun w =>
 oa pr w (sLoad 100 t5) fun t29 =>
 oa pr w (sLoad 100 t7) fun t30 =>
 o pr E w (sStore 100 t8 t29) fun _ w =>
 rk pr w (sLoad 100 t7) t30 ∧
 o pr E w (sStore 100 t9 t30) fun _ w =>
 rs pr w t8 100 fun v0_0 =>
 rs pr w t9 100 fun v1_1 =>
 K (.tuple #[v0_0, v1_1, (Value.bool false), (Value.bool false)]) w) (dr w))
  (o pr E w (sBinC .neq 149 a2 (Value.int IntKind.i64 4) 149) fun t32 w =>
 condP t32 ((fun w =>
 oa pr w (sLoad 100 t5) fun t33 =>
 oa pr w (sLoad 100 t7) fun t34 =>
 o pr E w (sStore 100 t8 t33) fun _ w =>
 rk pr w (sLoad 100 t7) t34 ∧
 o pr E w (sStore 100 t9 t34) fun _ w =>
 rs pr w t8 100 fun v0_2 =>
 rs pr w t9 100 fun v1_3 =>
 K (.tuple #[v0_2, v1_3, (Value.bool false), (Value.bool true)]) w) (dr w))
  (o pr E w (sLoad 104 t4) fun t36 w =>
 o pr E w (sLoad 100 t5) fun t37 w =>
 o pr E w (sLoad 100 t7) fun t38 w =>
 cl pr E w n_dc_Meet #[t36, t37, t38] fun t39 w =>
 o pr E w (sExt t39 0) fun _ w =>
 o pr E w (sExt t39 1) fun t41 w =>
 (fun w =>
 oa pr w (sLoad 100 t7) fun t42 =>
 oa pr w (sLoad 100 t5) fun t43 =>
 o pr E w (sStore 100 t8 t42) fun _ w =>
 rk pr w (sLoad 100 t5) t43 ∧
 o pr E w (sStore 100 t9 t43) fun _ w =>
 rs pr w t8 100 fun v0_4 =>
 rs pr w t9 100 fun v1_5 =>
 K (.tuple #[v0_4, v1_5, (Value.bool true), t41]) w) (dr w))))
def lv_dc_Bounds : Lives := [(1, [2, 4, 5, 7, 8, 9]), (2, [2, 4, 5, 7, 8, 9, 28]), (3, [2, 4, 5, 7, 8, 9]), (4, [4, 5, 7, 8, 9, 32]), (5, [4, 5, 7, 8, 9]), (6, [5, 7, 8, 9, 11])]
theorem sh_dc_Bounds_ok (a0 a1 a2 a3 : Value) (w : World) (R : Ending → World → Prop)
 (h : sh_dc_Bounds (fun v w => R (.returned v) w) (fun c w => R (.panicked c) w) a0 a1 a2 a3 w) : Calls pr n_dc_Bounds #[a0, a1, a2, a3] w R :=
 calls_of_W (A := lv_dc_Bounds) enters mixed Go.Proofs.Tryz.func107 (by kernel_rfl) (by kernel_rfl) (by kernel_rfl)
  (Eq.mp (by kernel_rfl) h)
def sh_dc_Join (K : Value → World → Prop) (E : PanicK) (a0 a1 a2 : Value) (w : World) : Prop :=
 o pr E w (sBox 104 a0) fun _ w =>
 o pr E w (sBox 100 a1) fun t4 w =>
 o pr E w (sBox 100 a2) fun t5 w =>
 o pr E w (sAlloc 100) fun t6 w =>
 (fun w =>
 oz pr (sFA 100 t4 0) fun t8 =>
 oa pr w (sLoad 3 t8) fun t9 =>
 oz pr (sFA 100 t5 0) fun t10 =>
 oa pr w (sLoad 3 t10) fun t11 =>
 oz pr (sFA 100 t4 1) fun t13 =>
 oa pr w (sLoad 3 t13) fun t14 =>
 oz pr (sFA 100 t5 1) fun t15 =>
 oa pr w (sLoad 3 t15) fun t16 =>
 oz pr (sBin .sub 3 t14 t16 3) fun t17 =>
 cl pr E w n_domain_gcd #[t9, t11] fun t12 w =>
 rk pr w (sLoad 3 t15) t16 ∧
 rk pr w (sLoad 3 t13) t14 ∧
 cl pr E w n_domain_gcd #[t12, t17] fun t18 w =>
 o pr E w (sBinC .eql 3 t18 (Value.int IntKind.i64 0) 3) fun t20 w =>
 condP t20 (o pr E w (sLoad 100 t4) fun t21 w =>
 o pr E w (sStore 100 t6 t21) fun _ w =>
 rs pr w t6 100 fun v0_0 =>
 K v0_0 w)
  (o pr E w (sFA 100 t4 1) fun t23 w =>
 o pr E w (sLoad 3 t23) fun t24 w =>
 cl pr E w n_domain_left #[t24, t18] fun t26 w =>
 o pr E w (sBuild 100 [(0, t18), (1, t26)]) fun t27 w =>
 o pr E w (sStore 100 t6 t27) fun _ w =>
 rs pr w t6 100 fun v0_1 =>
 K v0_1 w)) (dr w)
def lv_dc_Join : Lives := [(1, [4, 5, 6]), (2, [4, 6, 7]), (3, [4, 6, 7, 20]), (4, [4, 6, 7])]
theorem sh_dc_Join_ok (a0 a1 a2 : Value) (w : World) (R : Ending → World → Prop)
 (h : sh_dc_Join (fun v w => R (.returned v) w) (fun c w => R (.panicked c) w) a0 a1 a2 w) : Calls pr n_dc_Join #[a0, a1, a2] w R :=
 calls_of_W (A := lv_dc_Join) enters mixed Go.Proofs.Tryz.func108 (by kernel_rfl) (by kernel_rfl) (by kernel_rfl)
  (Eq.mp (by kernel_rfl) h)
def sh_dc_Meet (K : Value → World → Prop) (E : PanicK) (a0 a1 a2 : Value) (w : World) : Prop :=
 o pr E w (sBox 104 a0) fun _ w =>
 o pr E w (sBox 100 a1) fun t4 w =>
 o pr E w (sBox 100 a2) fun t5 w =>
 o pr E w (sAlloc 100) fun t6 w =>
 o pr E w (sFA 100 t4 0) fun t12 w =>
 o pr E w (sLoad 3 t12) fun t13 w =>
 o pr E w (sBinC .eql 3 t13 (Value.int IntKind.i64 0) 3) fun t14 w =>
 condP t14 ((fun w =>
 oa pr w (sLoad 100 t4) fun t15 =>
 oa pr w (sLoad 100 t5) fun t16 =>
 oz pr (sFA 100 t4 1) fun t17 =>
 oa pr w (sLoad 3 t17) fun t18 =>
 cl pr E w n_domain_Class_in #[t16, t18] fun t19 w =>
 rk pr w (sLoad 100 t4) t15 ∧
 o pr E w (sStore 100 t6 t15) fun _ w =>
 rs pr w t6 100 fun v0_0 =>
 K (.tuple #[v0_0, t19]) w) (dr w))
  (o pr E w (sFA 100 t5 0) fun t20 w =>
 o pr E w (sLoad 3 t20) fun t21 w =>
 o pr E w (sBinC .eql 3 t21 (Value.int IntKind.i64 0) 3) fun t22 w =>
 condP t22 ((fun w =>
 oa pr w (sLoad 100 t5) fun t23 =>
 oa pr w (sLoad 100 t4) fun t24 =>
 oz pr (sFA 100 t5 1) fun t25 =>
 oa pr w (sLoad 3 t25) fun t26 =>
 cl pr E w n_domain_Class_in #[t24, t26] fun t27 w =>
 rk pr w (sLoad 100 t5) t23 ∧
 o pr E w (sStore 100 t6 t23) fun _ w =>
 rs pr w t6 100 fun v0_1 =>
 K (.tuple #[v0_1, t27]) w) (dr w))
  (o pr E w (sFA 100 t4 0) fun t28 w =>
 o pr E w (sLoad 3 t28) fun t29 w =>
 o pr E w (sFA 100 t5 0) fun t30 w =>
 o pr E w (sLoad 3 t30) fun t31 w =>
 cl pr E w n_domain_gcd #[t29, t31] fun t32 w =>
 ∃ j1 : List Value → World → Prop, (∀ (e1 : Nat → Value) w, j1 [] w →
 (fun w =>
 oz pr (sFA 100 t4 0) fun t49 =>
 oa pr w (sLoad 3 t49) fun t50 =>
 oz pr (sBin .quo 3 t50 t32 3) fun t52 =>
 oz pr (sFA 100 t5 0) fun t53 =>
 oa pr w (sLoad 3 t53) fun t54 =>
 oz pr (sBin .mul 3 t52 t54 3) fun t55 =>
 o pr E w (sFA 100 t4 1) fun t56 w =>
 o pr E w (sLoad 3 t56) fun t57 w =>
 ∃ (I2 : List Value → World → Prop) (m2 : List Value → World → Nat), I2 [t57] w ∧
 ∀ (e2 : Nat → Value) w2, I2 [e2 10] w2 → (fun w =>
 o pr E w (sLoad 100 t5) fun t58 w =>
 cl pr E w n_domain_Class_in #[t58, (e2 10)] fun t60 w =>
 o pr E w (sUn .not 4 t60) fun t61 w =>
 condP t61 (o pr E w (sFA 100 t4 0) fun t63 w =>
 o pr E w (sLoad 3 t63) fun t64 w =>
 o pr E w (sBin .add 3 (e2 10) t64 3) fun t65 w =>
 I2 [t65] w ∧ m2 [t65] w < m2 [e2 10] w2)
  (o pr E w (sBinC .sub 3 (e2 10) (Value.int IntKind.i64 (-32768)) 3) fun t67 w =>
 cl pr E w n_domain_left #[t67, t55] fun t69 w =>
 o pr E w (sBinL .add 3 (Value.int IntKind.i64 (-32768)) t69 3) fun t70 w =>
 o pr E w (sBinC .gtr 3 t70 (Value.int IntKind.i64 32767) 3) fun t73 w =>
 condP t73 (o pr E w (sLoad 100 t4) fun t74 w =>
 o pr E w (sStore 100 t6 t74) fun _ w =>
 rs pr w t6 100 fun v0_2 =>
 K (.tuple #[v0_2, (Value.bool false)]) w)
  (o pr E w (sBin .add 3 t70 t55 3) fun t78 w =>
 o pr E w (sBinC .gtr 3 t78 (Value.int IntKind.i64 32767) 3) fun t79 w =>
 condP t79 (o pr E w (sBuild 100 [(0, (Value.int IntKind.i64 0)), (1, t70)]) fun t81 w =>
 o pr E w (sStore 100 t6 t81) fun _ w =>
 rs pr w t6 100 fun v0_3 =>
 K (.tuple #[v0_3, (Value.bool true)]) w)
  (cl pr E w n_domain_left #[t70, t55] fun t85 w =>
 o pr E w (sBuild 100 [(0, t55), (1, t85)]) fun t86 w =>
 o pr E w (sStore 100 t6 t86) fun _ w =>
 rs pr w t6 100 fun v0_4 =>
 K (.tuple #[v0_4, (Value.bool true)]) w)))) w2) (dr w)) ∧
 o pr E w (sFA 100 t4 1) fun t33 w =>
 o pr E w (sLoad 3 t33) fun t34 w =>
 o pr E w (sFA 100 t5 1) fun t35 w =>
 o pr E w (sLoad 3 t35) fun t36 w =>
 o pr E w (sBin .sub 3 t34 t36 3) fun t37 w =>
 o pr E w (sBin .rem 3 t37 t32 3) fun t39 w =>
 o pr E w (sBinC .neq 3 t39 (Value.int IntKind.i64 0) 3) fun t40 w =>
 condP t40 (o pr E w (sLoad 100 t4) fun t41 w =>
 o pr E w (sStore 100 t6 t41) fun _ w =>
 rs pr w t6 100 fun v0_5 =>
 K (.tuple #[v0_5, (Value.bool false)]) w)
  (o pr E w (sFA 100 t4 0) fun t42 w =>
 o pr E w (sLoad 3 t42) fun t43 w =>
 o pr E w (sFA 100 t5 0) fun t44 w =>
 o pr E w (sLoad 3 t44) fun t45 w =>
 o pr E w (sBin .lss 3 t43 t45 3) fun t46 w =>
 condP t46 (o pr E w (sLoad 100 t5) fun t47 w =>
 o pr E w (sLoad 100 t4) fun t48 w =>
 o pr E w (sStore 100 t4 t47) fun _ w =>
 o pr E w (sStore 100 t5 t48) fun _ w =>
 j1 [] w)
  (j1 [] w))))
def lv_dc_Meet : Lives := [(1, [4, 5, 6]), (2, [4, 5, 6, 14]), (3, [4, 5, 6]), (4, [4, 5, 6, 22]), (5, [4, 5, 6]), (6, [4, 5, 6, 8]), (7, [4, 5, 6, 8, 40]), (8, [4, 5, 6, 8]), (9, [4, 5, 6, 8, 46]), (10, [4, 5, 6, 8]), (11, [4, 5, 6, 9]), (12, [4, 5, 6, 9, 10]), (13, [4, 5, 6, 9, 10]), (14, [4, 6, 9, 10]), (15, [4, 6, 9, 11]), (16, [4, 6, 9, 11, 71]), (18, [6, 9, 11, 75]), (19, [6, 9, 11])]
theorem sh_dc_Meet_ok (a0 a1 a2 : Value) (w : World) (R : Ending → World → Prop)
 (h : sh_dc_Meet (fun v w => R (.returned v) w) (fun c w => R (.panicked c) w) a0 a1 a2 w) : Calls pr n_dc_Meet #[a0, a1, a2] w R :=
 calls_of_W (A := lv_dc_Meet) enters mixed Go.Proofs.Tryz.func109 (by kernel_rfl) (by kernel_rfl) (by kernel_rfl)
  (Eq.mp (by kernel_rfl) h)
def sh_dc_Minus (K : Value → World → Prop) (E : PanicK) (a0 a1 : Value) (w : World) : Prop :=
 o pr E w (sBox 104 a0) fun _ w =>
 o pr E w (sBox 100 a1) fun t3 w =>
 o pr E w (sAlloc 100) fun t4 w =>
 o pr E w (sFA 100 t3 0) fun t5 w =>
 o pr E w (sLoad 3 t5) fun t6 w =>
 o pr E w (sBinC .eql 3 t6 (Value.int IntKind.i64 0) 3) fun t7 w =>
 condP t7 (o pr E w (sFA 100 t3 1) fun t8 w =>
 o pr E w (sLoad 3 t8) fun t9 w =>
 o pr E w (sConv 3 55 t9) fun t10 w =>
 o pr E w (sUn .neg 55 t10) fun t11 w =>
 o pr E w (sConv 55 3 t11) fun t12 w =>
 o pr E w (sBuild 100 [(0, (Value.int IntKind.i64 0)), (1, t12)]) fun t13 w =>
 o pr E w (sStore 100 t4 t13) fun _ w =>
 rs pr w t4 100 fun v0_0 =>
 K v0_0 w)
  (o pr E w (sFA 100 t3 0) fun t14 w =>
 o pr E w (sLoad 3 t14) fun t15 w =>
 o pr E w (sFA 100 t3 1) fun t16 w =>
 o pr E w (sLoad 3 t16) fun t17 w =>
 o pr E w (sUn .neg 3 t17) fun t18 w =>
 cl pr E w n_domain_even #[t15, t18] fun t19 w =>
 o pr E w (sStore 100 t4 t19) fun _ w =>
 rs pr w t4 100 fun v0_1 =>
 K v0_1 w)
def lv_dc_Minus : Lives := [(1, [3, 4]), (2, [3, 4, 7]), (3, [3, 4])]
theorem sh_dc_Minus_ok (a0 a1 : Value) (w : World) (R : Ending → World → Prop)
 (h : sh_dc_Minus (fun v w => R (.returned v) w) (fun c w => R (.panicked c) w) a0 a1 w) : Calls pr n_dc_Minus #[a0, a1] w R :=
 calls_of_W (A := lv_dc_Minus) enters mixed Go.Proofs.Tryz.func110 (by kernel_rfl) (by kernel_rfl) (by kernel_rfl)
  (Eq.mp (by kernel_rfl) h)
def sh_dc_Narrow (K : Value → World → Prop) (E : PanicK) (a0 a1 a2 : Value) (w : World) : Prop :=
 o pr E w (sBox 104 a0) fun _ w =>
 o pr E w (sBox 100 a1) fun t4 w =>
 o pr E w (sBox 100 a2) fun _ w =>
 o pr E w (sAlloc 100) fun t6 w =>
 o pr E w (sLoad 100 t4) fun t7 w =>
 o pr E w (sStore 100 t6 t7) fun _ w =>
 rs pr w t6 100 fun v0_0 =>
 K v0_0 w
def lv_dc_Narrow : Lives := [(1, [4, 6])]
theorem sh_dc_Narrow_ok (a0 a1 a2 : Value) (w : World) (R : Ending → World → Prop)
 (h : sh_dc_Narrow (fun v w => R (.returned v) w) (fun c w => R (.panicked c) w) a0 a1 a2 w) : Calls pr n_dc_Narrow #[a0, a1, a2] w R :=
 calls_of_W (A := lv_dc_Narrow) enters mixed Go.Proofs.Tryz.func111 (by kernel_rfl) (by kernel_rfl) (by kernel_rfl)
  (Eq.mp (by kernel_rfl) h)
def sh_dc_Only (K : Value → World → Prop) (E : PanicK) (a0 a1 : Value) (w : World) : Prop :=
 o pr E w (sBox 104 a0) fun _ w =>
 o pr E w (sAlloc 100) fun t4 w =>
 o pr E w (sBuild 100 [(0, (Value.int IntKind.i64 0)), (1, a1)]) fun t6 w =>
 o pr E w (sStore 100 t4 t6) fun _ w =>
 rs pr w t4 100 fun v0_0 =>
 K v0_0 w
def lv_dc_Only : Lives := [(1, [1, 4])]
theorem sh_dc_Only_ok (a0 a1 : Value) (w : World) (R : Ending → World → Prop)
 (h : sh_dc_Only (fun v w => R (.returned v) w) (fun c w => R (.panicked c) w) a0 a1 w) : Calls pr n_dc_Only #[a0, a1] w R :=
 calls_of_W (A := lv_dc_Only) enters mixed Go.Proofs.Tryz.func112 (by kernel_rfl) (by kernel_rfl) (by kernel_rfl)
  (Eq.mp (by kernel_rfl) h)
def sh_dc_Tell (K : Value → World → Prop) (E : PanicK) (a0 a1 : Value) (w : World) : Prop :=
 o pr E w (sBox 104 a0) fun _ w =>
 o pr E w (sBox 100 a1) fun t3 w =>
 o pr E w (sAlloc 51) fun t4 w =>
 o pr E w (sFA 100 t3 0) fun t5 w =>
 o pr E w (sLoad 3 t5) fun t6 w =>
 o pr E w (sFA 100 t3 1) fun t7 w =>
 o pr E w (sLoad 3 t7) fun t8 w =>
 o pr E w (sBuild 51 [(0, t6), (1, t8)]) fun t9 w =>
 o pr E w (sStore 51 t4 t9) fun _ w =>
 rs pr w t4 51 fun v0_0 =>
 K v0_0 w
def lv_dc_Tell : Lives := [(1, [3, 4])]
theorem sh_dc_Tell_ok (a0 a1 : Value) (w : World) (R : Ending → World → Prop)
 (h : sh_dc_Tell (fun v w => R (.returned v) w) (fun c w => R (.panicked c) w) a0 a1 w) : Calls pr n_dc_Tell #[a0, a1] w R :=
 calls_of_W (A := lv_dc_Tell) enters mixed Go.Proofs.Tryz.func113 (by kernel_rfl) (by kernel_rfl) (by kernel_rfl)
  (Eq.mp (by kernel_rfl) h)
def sh_dc_Two (K : Value → World → Prop) (E : PanicK) (a0 a1 a2 a3 : Value) (w : World) : Prop :=
 o pr E w (sBox 104 a0) fun _ w =>
 o pr E w (sBox 100 a2) fun t6 w =>
 o pr E w (sBox 100 a3) fun t7 w =>
 o pr E w (sAlloc 100) fun t8 w =>
 (fun (k1 : Value → World → Prop) =>
 o pr E w (sFA 100 t6 0) fun t14 w =>
 o pr E w (sLoad 3 t14) fun t15 w =>
 o pr E w (sBinC .eql 3 t15 (Value.int IntKind.i64 0) 3) fun t16 w =>
 condG t16 true (o pr E w (sFA 100 t7 0) fun t18 w =>
 o pr E w (sLoad 3 t18) fun t19 w =>
 o pr E w (sBinC .eql 3 t19 (Value.int IntKind.i64 0) 3) fun t20 w =>
 o pr E w (sPick t16 t20 (Value.bool false)) fun t21_1 w =>
 k1 t21_1 w)
  (o pr E w (sPick t16 undef (Value.bool false)) fun t21_2 w =>
 k1 t21_2 w))
 (fun t21 w =>
 condP t21 (o pr E w (sFA 100 t6 1) fun t24 w =>
 o pr E w (sLoad 3 t24) fun t25 w =>
 o pr E w (sConv 3 55 t25) fun t26 w =>
 o pr E w (sFA 100 t7 1) fun t27 w =>
 o pr E w (sLoad 3 t27) fun t28 w =>
 o pr E w (sConv 3 55 t28) fun t29 w =>
 cl pr E w n_domain_exact #[a1, t26, t29] fun t30 w =>
 o pr E w (sExt t30 0) fun t31 w =>
 o pr E w (sExt t30 1) fun t32 w =>
 o pr E w (sConv 55 3 t31) fun t34 w =>
 o pr E w (sBuild 100 [(0, (Value.int IntKind.i64 0)), (1, t34)]) fun t35 w =>
 o pr E w (sStore 100 t8 t35) fun _ w =>
 rs pr w t8 100 fun v0_0 =>
 K (.tuple #[v0_0, t32]) w)
  (o pr E w (sBuild 100 []) fun t37 w =>
 o pr E w (sAlloc 100) fun t12 w =>
 o pr E w (sStore 100 t12 t37) fun _ w =>
 o pr E w (sFA 100 t6 0) fun t38 w =>
 o pr E w (sLoad 3 t38) fun t39 w =>
 o pr E w (sFA 100 t7 0) fun t40 w =>
 o pr E w (sLoad 3 t40) fun t41 w =>
 cl pr E w n_domain_gcd #[t39, t41] fun t42 w =>
 o pr E w (sBinC .eql 5 a1 (Value.int IntKind.u8 43) 5) fun t45 w =>
 condP t45 (o pr E w (sFA 100 t6 1) fun t47 w =>
 o pr E w (sLoad 3 t47) fun t48 w =>
 o pr E w (sFA 100 t7 1) fun t49 w =>
 o pr E w (sLoad 3 t49) fun t50 w =>
 o pr E w (sBin .add 3 t48 t50 3) fun t51 w =>
 cl pr E w n_domain_even #[t42, t51] fun t52 w =>
 o pr E w (sStore 100 t8 t52) fun _ w =>
 rs pr w t8 100 fun v0_1 =>
 K (.tuple #[v0_1, (Value.bool true)]) w)
  (o pr E w (sBinC .eql 5 a1 (Value.int IntKind.u8 45) 5) fun t54 w =>
 condP t54 (o pr E w (sFA 100 t6 1) fun t56 w =>
 o pr E w (sLoad 3 t56) fun t57 w =>
 o pr E w (sFA 100 t7 1) fun t58 w =>
 o pr E w (sLoad 3 t58) fun t59 w =>
 o pr E w (sBin .sub 3 t57 t59 3) fun t60 w =>
 cl pr E w n_domain_even #[t42, t60] fun t61 w =>
 o pr E w (sStore 100 t8 t61) fun _ w =>
 rs pr w t8 100 fun v0_2 =>
 K (.tuple #[v0_2, (Value.bool true)]) w)
  (o pr E w (sBinC .eql 5 a1 (Value.int IntKind.u8 42) 5) fun t63 w =>
 condP t63 ((fun (k12 : Value → World → Prop) =>
 o pr E w (sLoad 100 t6) fun t64 w =>
 o pr E w (sLoad 100 t12) fun t65 w =>
 o pr E w (sBin .eql 100 t64 t65 100) fun t66 w =>
 condG t66 false (o pr E w (sLoad 100 t7) fun t68 w =>
 o pr E w (sLoad 100 t12) fun t69 w =>
 o pr E w (sBin .eql 100 t68 t69 100) fun t70 w =>
 o pr E w (sPick t66 (Value.bool true) t70) fun t71_1 w =>
 k12 t71_1 w)
  (o pr E w (sPick t66 (Value.bool true) undef) fun t71_2 w =>
 k12 t71_2 w))
 (fun t71 w =>
 condP t71 (o pr E w (sLoad 100 t12) fun t72 w =>
 o pr E w (sStore 100 t8 t72) fun _ w =>
 rs pr w t8 100 fun v0_3 =>
 K (.tuple #[v0_3, (Value.bool true)]) w)
  ((fun w =>
 oz pr (sFA 100 t6 0) fun t73 =>
 oa pr w (sLoad 3 t73) fun t74 =>
 oz pr (sFA 100 t7 0) fun t75 =>
 oa pr w (sLoad 3 t75) fun t76 =>
 oz pr (sBin .mul 3 t74 t76 3) fun t77 =>
 oz pr (sFA 100 t6 0) fun t78 =>
 oa pr w (sLoad 3 t78) fun t79 =>
 oz pr (sFA 100 t7 1) fun t80 =>
 oa pr w (sLoad 3 t80) fun t81 =>
 oz pr (sBin .mul 3 t79 t81 3) fun t82 =>
 oz pr (sFA 100 t7 0) fun t84 =>
 oa pr w (sLoad 3 t84) fun t85 =>
 oz pr (sFA 100 t6 1) fun t86 =>
 oa pr w (sLoad 3 t86) fun t87 =>
 oz pr (sBin .mul 3 t85 t87 3) fun t88 =>
 oz pr (sFA 100 t6 1) fun t90 =>
 oa pr w (sLoad 3 t90) fun t91 =>
 oz pr (sFA 100 t7 1) fun t92 =>
 oa pr w (sLoad 3 t92) fun t93 =>
 oz pr (sBin .mul 3 t91 t93 3) fun t94 =>
 cl pr E w n_domain_gcd #[t77, t82] fun t83 w =>
 rk pr w (sLoad 3 t92) t93 ∧
 rk pr w (sLoad 3 t90) t91 ∧
 rk pr w (sLoad 3 t86) t87 ∧
 rk pr w (sLoad 3 t84) t85 ∧
 cl pr E w n_domain_gcd #[t83, t88] fun t89 w =>
 rk pr w (sLoad 3 t92) t93 ∧
 rk pr w (sLoad 3 t90) t91 ∧
 cl pr E w n_domain_even #[t89, t94] fun t95 w =>
 o pr E w (sStore 100 t8 t95) fun _ w =>
 rs pr w t8 100 fun v0_4 =>
 K (.tuple #[v0_4, (Value.bool true)]) w) (dr w))))
  (o pr E w (sLoad 100 t7) fun t96 w =>
 o pr E w (sLoad 100 t12) fun t97 w =>
 o pr E w (sBin .eql 100 t96 t97 100) fun t98 w =>
 condP t98 (o pr E w (sLoad 100 t7) fun t99 w =>
 o pr E w (sStore 100 t8 t99) fun _ w =>
 rs pr w t8 100 fun v0_5 =>
 K (.tuple #[v0_5, (Value.bool false)]) w)
  (o pr E w (sBinC .eql 5 a1 (Value.int IntKind.u8 47) 5) fun t101 w =>
 condP t101 (o pr E w (sBuild 100 [(0, (Value.int IntKind.i64 1)), (1, (Value.int IntKind.i64 0))]) fun t102 w =>
 o pr E w (sStore 100 t8 t102) fun _ w =>
 rs pr w t8 100 fun v0_6 =>
 K (.tuple #[v0_6, (Value.bool true)]) w)
  (o pr E w (sFA 100 t7 1) fun t104 w =>
 o pr E w (sLoad 3 t104) fun t105 w =>
 cl pr E w n_domain_gcd #[t42, t105] fun t106 w =>
 o pr E w (sFA 100 t6 1) fun t108 w =>
 o pr E w (sLoad 3 t108) fun t109 w =>
 cl pr E w n_domain_left #[t109, t106] fun t111 w =>
 o pr E w (sBuild 100 [(0, t106), (1, t111)]) fun t112 w =>
 o pr E w (sStore 100 t8 t112) fun _ w =>
 rs pr w t8 100 fun v0_7 =>
 K (.tuple #[v0_7, (Value.bool true)]) w)))))))
def lv_dc_Two : Lives := [(1, [1, 6, 7, 8]), (2, [1, 6, 7, 8, 21]), (3, [8, 10, 11]), (4, [1, 6, 7, 8]), (5, [1, 6, 7, 8, 12]), (6, [1, 6, 7, 8, 12, 13]), (7, [1, 6, 7, 8, 12, 13, 43]), (8, [1, 6, 7, 8, 12, 13, 43, 44]), (10, [1, 6, 7, 8, 12, 13, 43, 53]), (12, [1, 6, 7, 8, 12, 13, 62]), (13, [6, 7, 8, 12, 71]), (14, [6, 7, 8]), (15, [1, 6, 7, 8, 12, 13]), (16, [1, 6, 7, 8, 13, 98]), (17, [1, 6, 7, 8, 13]), (18, [6, 7, 8, 13, 101]), (19, [6, 7, 8, 13]), (20, [6, 8, 13])]
theorem sh_dc_Two_ok (a0 a1 a2 a3 : Value) (w : World) (R : Ending → World → Prop)
 (h : sh_dc_Two (fun v w => R (.returned v) w) (fun c w => R (.panicked c) w) a0 a1 a2 a3 w) : Calls pr n_dc_Two #[a0, a1, a2, a3] w R :=
 calls_of_W (A := lv_dc_Two) enters mixed Go.Proofs.Tryz.func114 (by kernel_rfl) (by kernel_rfl) (by kernel_rfl)
  (Eq.mp (by kernel_rfl) h)
def sh_dc_Whole (K : Value → World → Prop) (E : PanicK) (a0 : Value) (w : World) : Prop :=
 o pr E w (sBox 104 a0) fun _ w =>
 o pr E w (sAlloc 100) fun t2 w =>
 o pr E w (sBuild 100 [(0, (Value.int IntKind.i64 1)), (1, (Value.int IntKind.i64 0))]) fun t3 w =>
 o pr E w (sStore 100 t2 t3) fun _ w =>
 rs pr w t2 100 fun v0_0 =>
 K v0_0 w
def lv_dc_Whole : Lives := [(1, [2])]
theorem sh_dc_Whole_ok (a0 : Value) (w : World) (R : Ending → World → Prop)
 (h : sh_dc_Whole (fun v w => R (.returned v) w) (fun c w => R (.panicked c) w) a0 w) : Calls pr n_dc_Whole #[a0] w R :=
 calls_of_W (A := lv_dc_Whole) enters mixed Go.Proofs.Tryz.func115 (by kernel_rfl) (by kernel_rfl) (by kernel_rfl)
  (Eq.mp (by kernel_rfl) h)
def sh_dc_Widen (K : Value → World → Prop) (E : PanicK) (a0 a1 a2 : Value) (w : World) : Prop :=
 o pr E w (sBox 104 a0) fun _ w =>
 o pr E w (sBox 100 a1) fun _ w =>
 o pr E w (sBox 100 a2) fun t5 w =>
 o pr E w (sAlloc 100) fun t6 w =>
 o pr E w (sLoad 100 t5) fun t7 w =>
 o pr E w (sStore 100 t6 t7) fun _ w =>
 rs pr w t6 100 fun v0_0 =>
 K v0_0 w
def lv_dc_Widen : Lives := [(1, [5, 6])]
theorem sh_dc_Widen_ok (a0 a1 a2 : Value) (w : World) (R : Ending → World → Prop)
 (h : sh_dc_Widen (fun v w => R (.returned v) w) (fun c w => R (.panicked c) w) a0 a1 a2 w) : Calls pr n_dc_Widen #[a0, a1, a2] w R :=
 calls_of_W (A := lv_dc_Widen) enters mixed Go.Proofs.Tryz.func116 (by kernel_rfl) (by kernel_rfl) (by kernel_rfl)
  (Eq.mp (by kernel_rfl) h)
def sh_dc_Zero (K : Value → World → Prop) (E : PanicK) (a0 a1 : Value) (w : World) : Prop :=
 o pr E w (sBox 104 a0) fun _ w =>
 o pr E w (sBox 100 a1) fun t3 w =>
 o pr E w (sFA 100 t3 1) fun t5 w =>
 o pr E w (sLoad 3 t5) fun t6 w =>
 o pr E w (sBinC .eql 3 t6 (Value.int IntKind.i64 0) 3) fun t7 w =>
 K t7 w
def lv_dc_Zero : Lives := [(1, [3])]
theorem sh_dc_Zero_ok (a0 a1 : Value) (w : World) (R : Ending → World → Prop)
 (h : sh_dc_Zero (fun v w => R (.returned v) w) (fun c w => R (.panicked c) w) a0 a1 w) : Calls pr n_dc_Zero #[a0, a1] w R :=
 calls_of_W (A := lv_dc_Zero) enters mixed Go.Proofs.Tryz.func117 (by kernel_rfl) (by kernel_rfl) (by kernel_rfl)
  (Eq.mp (by kernel_rfl) h)
def sh_domain_gcd (K : Value → World → Prop) (E : PanicK) (a0 a1 : Value) (w : World) : Prop :=
 ∃ (I1 : List Value → World → Prop) (m1 : List Value → World → Nat), I1 [a0, a1] w ∧
 ∀ (e1 : Nat → Value) w1, I1 [e1 0, e1 1] w1 → (fun w =>
 o pr E w (sBinC .neq 3 (e1 1) (Value.int IntKind.i64 0) 3) fun t6 w =>
 condP t6 ((fun w =>
 oz pr (sBin .rem 3 (e1 0) (e1 1) 3) fun t10 =>
 I1 [(e1 1), t10] w ∧ m1 [(e1 1), t10] w < m1 [e1 0, e1 1] w1) (dr w))
  (o pr E w (sUn .neg 3 (e1 0)) fun t13 w =>
 o pr E w (sB .max [3, 3] 3 [(e1 0), t13]) fun t14 w =>
 K t14 w)) w1
def lv_domain_gcd : Lives := [(1, [0, 1]), (2, [0, 1]), (3, [0])]
theorem sh_domain_gcd_ok (a0 a1 : Value) (w : World) (R : Ending → World → Prop)
 (h : sh_domain_gcd (fun v w => R (.returned v) w) (fun c w => R (.panicked c) w) a0 a1 w) : Calls pr n_domain_gcd #[a0, a1] w R :=
 calls_of_W (A := lv_domain_gcd) enters mixed Go.Proofs.Tryz.func118 (by kernel_rfl) (by kernel_rfl) (by kernel_rfl)
  (Eq.mp (by kernel_rfl) h)
def sh_domain_left (K : Value → World → Prop) (E : PanicK) (a0 a1 : Value) (w : World) : Prop :=
 o pr E w (sBin .rem 3 a0 a1 3) fun t7 w =>
 o pr E w (sBin .add 3 t7 a1 3) fun t9 w =>
 o pr E w (sBin .rem 3 t9 a1 3) fun t11 w =>
 K t11 w
def lv_domain_left : Lives := [(1, [0, 1])]
theorem sh_domain_left_ok (a0 a1 : Value) (w : World) (R : Ending → World → Prop)
 (h : sh_domain_left (fun v w => R (.returned v) w) (fun c w => R (.panicked c) w) a0 a1 w) : Calls pr n_domain_left #[a0, a1] w R :=
 calls_of_W (A := lv_domain_left) enters mixed Go.Proofs.Tryz.func119 (by kernel_rfl) (by kernel_rfl) (by kernel_rfl)
  (Eq.mp (by kernel_rfl) h)
def sh_domain_even (K : Value → World → Prop) (E : PanicK) (a0 a1 : Value) (w : World) : Prop :=
 o pr E w (sAlloc 100) fun t4 w =>
 o pr E w (sConv 3 62 a0) fun t7 w =>
 cl pr E w n_math_bits_TrailingZeros #[t7] fun t8 w =>
 o pr E w (sB .min [3, 3] 3 [(Value.int IntKind.i64 16), t8]) fun t9 w =>
 o pr E w (sBinL .shl 3 (Value.int IntKind.i64 1) t9 3) fun t10 w =>
 cl pr E w n_domain_left #[a1, t10] fun t14 w =>
 o pr E w (sBuild 100 [(0, t10), (1, t14)]) fun t15 w =>
 o pr E w (sStore 100 t4 t15) fun _ w =>
 rs pr w t4 100 fun v0_0 =>
 K v0_0 w
def lv_domain_even : Lives := [(1, [0, 1, 4]), (2, [1, 4, 5])]
theorem sh_domain_even_ok (a0 a1 : Value) (w : World) (R : Ending → World → Prop)
 (h : sh_domain_even (fun v w => R (.returned v) w) (fun c w => R (.panicked c) w) a0 a1 w) : Calls pr n_domain_even #[a0, a1] w R :=
 calls_of_W (A := lv_domain_even) enters mixed Go.Proofs.Tryz.func120 (by kernel_rfl) (by kernel_rfl) (by kernel_rfl)
  (Eq.mp (by kernel_rfl) h)
def sh_domain_exact (K : Value → World → Prop) (E : PanicK) (a0 a1 a2 : Value) (w : World) : Prop :=
 o pr E w (sBinC .eql 5 a0 (Value.int IntKind.u8 43) 5) fun t10 w =>
 condP t10 (o pr E w (sBin .add 55 a1 a2 55) fun t13 w =>
 K (.tuple #[t13, (Value.bool true)]) w)
  (o pr E w (sBinC .eql 5 a0 (Value.int IntKind.u8 45) 5) fun t15 w =>
 condP t15 (o pr E w (sBin .sub 55 a1 a2 55) fun t18 w =>
 K (.tuple #[t18, (Value.bool true)]) w)
  (o pr E w (sBinC .eql 5 a0 (Value.int IntKind.u8 42) 5) fun t20 w =>
 condP t20 (o pr E w (sBin .mul 55 a1 a2 55) fun t23 w =>
 K (.tuple #[t23, (Value.bool true)]) w)
  (o pr E w (sBinC .eql 55 a2 (Value.int IntKind.i16 0) 55) fun t25 w =>
 condP t25 (K (.tuple #[(Value.int IntKind.i16 0), (Value.bool false)]) w)
  (o pr E w (sBinC .eql 5 a0 (Value.int IntKind.u8 47) 5) fun t27 w =>
 condP t27 (o pr E w (sBin .quo 55 a1 a2 55) fun t30 w =>
 K (.tuple #[t30, (Value.bool true)]) w)
  (o pr E w (sBin .rem 55 a1 a2 55) fun t33 w =>
 K (.tuple #[t33, (Value.bool true)]) w)))))
def lv_domain_exact : Lives := [(1, [0, 1, 2]), (2, [0, 1, 2, 8]), (3, [0, 1, 2, 8, 9]), (5, [0, 1, 2, 8, 14]), (7, [0, 1, 2, 19]), (8, [0, 1, 2]), (9, [0, 1, 2, 25]), (10, [0, 1, 2]), (11, [1, 2, 27]), (12, [1, 2])]
theorem sh_domain_exact_ok (a0 a1 a2 : Value) (w : World) (R : Ending → World → Prop)
 (h : sh_domain_exact (fun v w => R (.returned v) w) (fun c w => R (.panicked c) w) a0 a1 a2 w) : Calls pr n_domain_exact #[a0, a1, a2] w R :=
 calls_of_W (A := lv_domain_exact) enters mixed Go.Proofs.Tryz.func121 (by kernel_rfl) (by kernel_rfl) (by kernel_rfl)
  (Eq.mp (by kernel_rfl) h)
end Go.Inv
namespace Go.Inv
open Go.Sh
abbrev tyCls : Nat := 100
abbrev clV (x : Cls) : Value := .agg #[vi x.m, vi x.r]
theorem remI {a b : Int} (hb : b ≠ 0) : intV .rem .i64 a b = some (vi (a.tmod b)) := by simp only [intV, if_neg hb]
theorem quoI {a b : Int} (hb : b ≠ 0) : intV .quo .i64 a b = some (vi (IntKind.i64.wrap (a.tdiv b))) := by simp only [intV, if_neg hb]
theorem tmod_bd {a b : Int} (hb : 0 < b) : -b < a.tmod b ∧ a.tmod b < b := by
 refine ⟨?_, Int.tmod_lt_of_pos a hb⟩
 have := Int.lt_tmod_of_pos a hb
 omega
def Sml (n : Int) : Prop := -1099511627776 ≤ n ∧ n ≤ 1099511627776
theorem left_ok {n m : Int} (hm : 0 < m) (hm2 : m ≤ 1099511627776) (w : World) : Calls pr n_domain_left #[vi n, vi m] w fun e w' => e = .returned (vi (leftV n m)) ∧ w' = w := by
 refine sh_domain_left_ok _ _ _ _ ?_
 unfold sh_domain_left
 have h0 : m ≠ 0 := by omega
 obtain ⟨b1, b2⟩ := tmod_bd (a := n) hm
 have hw : IntKind.i64.wrap (n.tmod m + m) = n.tmod m + m := wr (by omega) (by omega)
 simp only [↓RT6, ↓RT, ↓RG, RV, remI h0, hw]
 exact ⟨rfl, trivial⟩
theorem gcd_step (a b : Int) : gcdV b (a.tmod b) = gcdV a b := by
 unfold gcdV Int.gcd
 rw [Int.natAbs_tmod, Nat.gcd_comm b.natAbs, ← Nat.gcd_rec, Nat.gcd_comm]
theorem gcd_nil (a : Int) : gcdV a 0 = max a (-a) := by
 unfold gcdV
 rw [Int.gcd_zero_right]
 omega
def GcM (vs : List Value) (_ : World) : Nat := match vs with
 | [_, .int _ n] => n.natAbs
 | _ => 0
theorem gcd_ok {a b : Int} (ha : Sml a) (hb : Sml b) (w : World) : Calls pr n_domain_gcd #[vi a, vi b] w (Ret (vi (gcdV a b)) w) := by
 refine sh_domain_gcd_ok _ _ _ _ ?_
 unfold sh_domain_gcd
 refine ⟨fun vs w' => ∃ x y : Int, vs = [vi x, vi y] ∧ Sml x ∧ Sml y ∧ gcdV x y = gcdV a b ∧ Old w w', GcM, ⟨a, b, rfl, ha, hb, rfl, Old.refl w⟩, ?_⟩
 rintro e1 w1 ⟨x, y, he, hx, hy, hg, ho⟩
 have e0 : e1 0 = vi x := by simpa using (List.cons.inj he).1
 have e1' : e1 1 = vi y := by simpa using (List.cons.inj (List.cons.inj he).2).1
 rw [e0, e1']
 simp only [↓RM, ↓RT6, ↓RT, ↓RG, RV]
 refine Iv.condJ (p := y ≠ 0) (by by_cases hh : y = 0 <;> simp [hh]) (fun h => ?_) (fun h => ?_)
 ·have h1 : (x.tmod y).natAbs < y.natAbs := by rw [Int.natAbs_tmod]; exact Nat.mod_lt _ (by omega)
  simp only [↓RT6, ↓RT, ↓RG, RV, remI h]
  refine ⟨⟨y, x.tmod y, rfl, hy, ?_, by rw [gcd_step]; exact hg, ho.dr⟩, by simpa [GcM] using h1⟩
  unfold Sml at hy ⊢; omega
 ·have hy0 : y = 0 := by omega
  subst hy0
  have hw : IntKind.i64.wrap (0 - x) = -x := by rw [wr (by unfold Sml at hx; omega) (by unfold Sml at hx; omega)]; omega
  simp only [↓RM, ↓RT6, ↓RT, ↓RG, RV, hw]
  rw [gcd_nil] at hg
  rw [hg]
  exact ⟨rfl, ho⟩
end Go.Inv
namespace Go.Inv
open Go.Sh
theorem ik261 : isIntK pr 261 .u32 = true := by kernel_rfl
def RTq := (And.intro (And.intro (And.intro (And.intro (And.intro (rLoad pl5) (raLoad pl5)) (And.intro (rkLoad pl5) (rStore pl5))) (And.intro (And.intro (rConv ik3 ik3) (rzConv ik3 ik3)) (And.intro (rConv ik3 ik5) (And.intro (rzConv ik3 ik5) (rConv ik3 ik62))))) (And.intro (And.intro (And.intro (rzConv ik3 ik62) (rConv ik3 ik261)) (And.intro (rzConv ik3 ik261) (rConv ik5 ik3))) (And.intro (And.intro (rzConv ik5 ik3) (rConv ik5 ik5)) (And.intro (rzConv ik5 ik5) (And.intro (rConv ik5 ik62) (rzConv ik5 ik62)))))) (And.intro (And.intro (And.intro (And.intro (rConv ik5 ik261) (rzConv ik5 ik261)) (And.intro (rConv ik62 ik3) (rzConv ik62 ik3))) (And.intro (And.intro (rConv ik62 ik5) (rzConv ik62 ik5)) (And.intro (rConv ik62 ik62) (And.intro (rzConv ik62 ik62) (rConv ik62 ik261))))) (And.intro (And.intro (And.intro (rzConv ik62 ik261) (rConv ik261 ik3)) (And.intro (rzConv ik261 ik3) (rConv ik261 ik5))) (And.intro (And.intro (rzConv ik261 ik5) (rConv ik261 ik62)) (And.intro (rzConv ik261 ik62) (And.intro (rConv ik261 ik261) (rzConv ik261 ik261)))))))
def sh_math_bits_TrailingZeros (K : Value → World → Prop) (E : PanicK) (a0 : Value) (w : World) : Prop :=
 condP (Value.bool false) (o pr E w (sConv 62 261 a0) fun t4 w =>
 cl pr E w n_math_bits_TrailingZeros32 #[t4] fun t5 w =>
 K t5 w)
  (cl pr E w n_math_bits_TrailingZeros64 #[a0] fun t7 w =>
 K t7 w)
def lv_math_bits_TrailingZeros : Lives := [(1, [0]), (2, [0])]
theorem sh_math_bits_TrailingZeros_ok (a0 : Value) (w : World) (R : Ending → World → Prop)
 (h : sh_math_bits_TrailingZeros (fun v w => R (.returned v) w) (fun c w => R (.panicked c) w) a0 w) : Calls pr n_math_bits_TrailingZeros #[a0] w R :=
 calls_of_W (A := lv_math_bits_TrailingZeros) enters mixed Go.Proofs.Tryz.func122 (by kernel_rfl) (by kernel_rfl) (by kernel_rfl)
  (Eq.mp (by kernel_rfl) h)
def sh_math_bits_TrailingZeros64 (K : Value → World → Prop) (E : PanicK) (a0 : Value) (w : World) : Prop :=
 o pr E w (sBinC .eql 276 a0 (Value.int IntKind.u64 0) 276) fun t4 w =>
 condP t4 (K (Value.int IntKind.i64 64) w)
  (o pr E w (sUn .neg 276 a0) fun t7 w =>
 o pr E w (sBin .and 276 a0 t7 276) fun t8 w =>
 o pr E w (sBinC .mul 276 t8 (Value.int IntKind.u64 285870213051353865) 276) fun t9 w =>
 o pr E w (sBinC .shr 276 t9 (Value.int IntKind.u64 58) 62) fun t10 w =>
 o pr E w (sIA 278 (G 3) t10) fun t11 w =>
 o pr E w (sLoad 5 t11) fun t12 w =>
 o pr E w (sConv 5 3 t12) fun t13 w =>
 K t13 w)
def lv_math_bits_TrailingZeros64 : Lives := [(1, [0]), (2, [0, 4]), (3, [0])]
theorem sh_math_bits_TrailingZeros64_ok (a0 : Value) (w : World) (R : Ending → World → Prop)
 (h : sh_math_bits_TrailingZeros64 (fun v w => R (.returned v) w) (fun c w => R (.panicked c) w) a0 w) : Calls pr n_math_bits_TrailingZeros64 #[a0] w R :=
 calls_of_W (A := lv_math_bits_TrailingZeros64) enters mixed Go.Proofs.Tryz.func124 (by kernel_rfl) (by kernel_rfl) (by kernel_rfl)
  (Eq.mp (by kernel_rfl) h)
end Go.Inv
namespace Go.Inv.Iv
open Go.Sh
section
variable {V : Type} {C : SvC V} [hC : C.Ok]
theorem n0_len : C.n0.vars.length = 8 := rfl
theorem rAlSt : ∀ E w K, o pr E w (sAlloc C.N.st) K = K (pt w.heap.size 0) (w.alloc (.cells (C.sA C.n0) C.N.st)) := fun _ w _ => o_val (hC.alS w)
theorem rBdSt : ∀ E w K, o pr E w (sBuild C.N.st []) K = K (.agg (C.sA C.n0)) w := fun _ w _ => o_val (hC.bdS w)
theorem rAlV : ∀ E w K, o pr E w (sAlloc C.N.v) K = K (pt w.heap.size 0) (w.alloc (.cells #[vi 0, vi 0] C.N.v)) := fun _ w _ => o_val (hC.alV w)
end
theorem agg_cells (xs : Array Value) : (Value.agg xs).cells = xs := rfl
def Lw := And.intro (fun (w : World) (b c : Nat) (vs : List Value) (i : Nat) => get_putL b c vs i w) <| And.intro (fun (b : Nat) (vs : List Value) (i : Nat) (w : World) => size_putL b vs i w) agg_cells
section
variable {V : Type} {C : SvC V} [hC : C.Ok]
theorem stR {x : St V} (h : x.vars.length = 8) : (∀ t f, blkRow (some (.cells (C.sA x) t f)) 0 17 = some (.agg (C.sA x))) ∧ (C.sA x).size = 17 ∧ (∀ t, okRow (some (.cells (C.sA x) t (0, 0))) 0 17 = true) ∧ (C.sA x).toList.all isOne = true ∧
 (∀ (y : St V) t f, y.vars.length = 8 → Option.map (rowObj 0 (C.sA x).toList) (some (.cells (C.sA y) t f)) = some (.cells (C.sA x) t f)) :=
 ⟨fun _ _ => st_all C.e h, stA_size C.e h, fun _ => st_ok C.e h (by omega), isOne_stA C.e x, fun _ _ _ hy => row_st C.e hy h⟩
theorem someR (x : St V) : (C.sA x)[0]? = some (.bool x.some) := st_some C.e x 0 (0, 0)
def RSs := And.intro (someR (C := C)) <| And.intro (rAlSt (C := C)) <| And.intro (rBdSt (C := C)) <| And.intro (rRs hC.nt.ag_st) <| And.intro (rAlV (C := C)) (rRs hC.nt.ag_v)
theorem varR {x : St V} {v : Nat} (h : x.vars.length = 8) (hv : v < 8) : (∀ t f, blkRow (some (.cells (C.sA x) t f)) (1 + v * 2) 2 = some (C.e.v (x.vars.getD v C.D.zeroV))) ∧ (∀ t, okRow (some (.cells (C.sA x) t (0, 0))) (1 + v * 2) 2 = true) ∧
 (∀ (u : V) t f, Option.map (rowObj (1 + v * 2) [vi (C.e.a u), vi (C.e.b u)]) (some (.cells (C.sA x) t f)) = some (.cells (C.sA (setSt v u x)) t f)) :=
 ⟨fun _ _ => st_get C.e _ h hv, fun _ => st_ok C.e h (by omega), fun u _ _ => row_set C.e u h hv⟩
theorem setSt_len {x : St V} (v : Nat) (u : V) (h : x.vars.length = 8) : (setSt v u x).vars.length = 8 := by simpa [setSt] using h
theorem InvS.len {x : St V} (h : InvS (C.O) x) : x.vars.length = 8 := by
 cases hs : x.some with
 | true => exact (h.yes hs).1
 | false => rw [h.no hs]; rfl
theorem rIAv (b v : Nat) (h : v < 8) : Pur pr (sIA C.N.ar (pt b 1) (vi v)) (pt b (1 + v * 2)) := by
 have := pur_IAa (b := b) (off := 1) hC.elA (Int.natCast_nonneg v) (by omega : (v : Int) < (8 : Nat))
 simpa using this
end
end Go.Inv.Iv
namespace Go.Inv
open Go.Sh
theorem Old.ofDr {a b : World} (h : Old (Sh.dr a) b) : Old a b := ⟨h.size, h.old, ⟨h.out.os, h.out.output⟩⟩
end Go.Inv
namespace Go.Inv.Iv
open Go.Sh
section
variable {V : Type} {C : SvC V} [hC : C.Ok]
theorem FrS.ofDr {a b : World} (h : FrS C (Sh.dr a) b) : FrS C a b := ⟨h.size, h.old, ⟨h.out.os, h.out.output⟩⟩
def RI := And.intro (fun k => (oz_val hC.nilD : oz pr (sNil C.dom) k = _)) <|
 And.intro (fun (E : PanicK) (w : World) (K : Value → World → Prop) => (o_val (hC.nilD w) : o pr E w (sNil C.dom) K = _)) <|
 And.intro (fun (E : PanicK) (w : World) (K : Value → World → Prop) a => (o_enter (hC.iOnly a w) : o pr E w _ K = _)) <|
 And.intro (fun (E : PanicK) (w : World) (K : Value → World → Prop) => (o_enter (hC.iWhole  w) : o pr E w _ K = _)) <|
 And.intro (fun (E : PanicK) (w : World) (K : Value → World → Prop) a => (o_enter (hC.iMinus a w) : o pr E w _ K = _)) <|
 And.intro (fun (E : PanicK) (w : World) (K : Value → World → Prop) a b c => (o_enter (hC.iTwo a b c w) : o pr E w _ K = _)) <|
 And.intro (fun (E : PanicK) (w : World) (K : Value → World → Prop) a b => (o_enter (hC.iJoin a b w) : o pr E w _ K = _)) <|
 And.intro (fun (E : PanicK) (w : World) (K : Value → World → Prop) a b => (o_enter (hC.iMeet a b w) : o pr E w _ K = _)) <|
 And.intro (fun (E : PanicK) (w : World) (K : Value → World → Prop) a => (o_enter (hC.iZero a w) : o pr E w _ K = _)) <|
 And.intro (fun (E : PanicK) (w : World) (K : Value → World → Prop) a b c => (o_enter (hC.iBounds a b c w) : o pr E w _ K = _)) <|
 And.intro (fun (E : PanicK) (w : World) (K : Value → World → Prop) a b => (o_enter (hC.iWiden a b w) : o pr E w _ K = _)) <|
 And.intro (fun (E : PanicK) (w : World) (K : Value → World → Prop) a b => (o_enter (hC.iNarrow a b w) : o pr E w _ K = _)) <|
 (fun (E : PanicK) (w : World) (K : Value → World → Prop) a => (o_enter (hC.iTell a w) : o pr E w _ K = _))
end
section
variable {V : Type}
def mixV (f : V → V → V) (i : Nat) (xs ys : List V) : List V := (List.zipWith f xs ys).take i ++ xs.drop i
section
variable {f : V → V → V} {xs ys : List V} (hx : xs.length = 8) (hy : ys.length = 8)
theorem mix_0 : mixV f 0 xs ys = xs := rfl
include hx hy
theorem mix_8 : mixV f 8 xs ys = List.zipWith f xs ys := by
 unfold mixV; rw [List.take_of_length_le (by simp; omega), List.drop_of_length_le (by omega)]; simp
theorem mix_len {i : Nat} (_hi : i ≤ 8) : (mixV f i xs ys).length = 8 := by unfold mixV; simp; omega
theorem mix_get {i : Nat} (hi : i < 8) (d : V) : (mixV f i xs ys).getD i d = xs.getD i d := by
 obtain ⟨x0, x1, x2, x3, x4, x5, x6, x7, rfl⟩ := len8 hx
 obtain ⟨y0, y1, y2, y3, y4, y5, y6, y7, rfl⟩ := len8 hy
 match i, hi with
 | 0, _ => rfl
 | 1, _ => rfl
 | 2, _ => rfl
 | 3, _ => rfl
 | 4, _ => rfl
 | 5, _ => rfl
 | 6, _ => rfl
 | 7, _ => rfl
theorem mix_set {i : Nat} (hi : i < 8) (d : V) : (mixV f i xs ys).set i (f (xs.getD i d) (ys.getD i d)) = mixV f (i + 1) xs ys := by
 obtain ⟨x0, x1, x2, x3, x4, x5, x6, x7, rfl⟩ := len8 hx
 obtain ⟨y0, y1, y2, y3, y4, y5, y6, y7, rfl⟩ := len8 hy
 match i, hi with
 | 0, _ => rfl
 | 1, _ => rfl
 | 2, _ => rfl
 | 3, _ => rfl
 | 4, _ => rfl
 | 5, _ => rfl
 | 6, _ => rfl
 | 7, _ => rfl
end
end
end Go.Inv.Iv
namespace Go.Inv
open Go.Sh
def gTz : Nat := 3
structure TabT (T : Nat → Int) (w : World) : Prop where
 ok : ∀ j, 0 ≤ T j ∧ T j ≤ 255
 at' : ∃ cs t f, w.heap[gTz]? = some (.cells cs t f) ∧ ∀ j, j < 64 → cs[j]? = some (.int .u8 (T j))
theorem TabT.old {T : Nat → Int} {w w' : World} (h : TabT T w) (ho : Old w w') : TabT T w' := by
 obtain ⟨h0, cs, t, f, h1, h2⟩ := h; exact ⟨h0, cs, t, f, ho.heap h1, h2⟩
def tzA (x : Int) : Int := IntKind.u64.wrap (BitVec.ofInt 64 x &&& BitVec.ofInt 64 (IntKind.u64.wrap (0 - x))).toNat
def tzI (x : Int) : Nat := ((IntKind.u64.wrap (tzA x * 285870213051353865)).fdiv (2 ^ 58)).toNat
def tzV (T : Nat → Int) (x : Int) : Int := if x = 0 then 64 else T (tzI x)
theorem and_ok (x y : Int) : ∀ E w K, o pr E w (sBin .and 276 (.int .u64 x) (.int .u64 y) 276) K = K (.int .u64 (IntKind.u64.wrap (BitVec.ofInt 64 x &&& BitVec.ofInt 64 y).toNat)) w := fun _ w _ => o_val (by kernel_rfl)
theorem shr_ok (x : Int) : ∀ E w K, o pr E w (sBinC .shr 276 (.int .u64 x) (.int .u64 58) 62) K = K (.int .u64 (x.fdiv (2 ^ 58))) w := fun _ w _ => o_val (by kernel_rfl)
theorem eq0_ok (x : Int) : ∀ E w K, o pr E w (sBinC .eql 276 (.int .u64 x) (.int .u64 0) 276) K = K (.bool (x == 0)) w := fun _ w _ => by rw [rBinC, intV_eql, okOf_some]
theorem mul_ok (x : Int) : ∀ E w K, o pr E w (sBinC .mul 276 (.int .u64 x) (.int .u64 285870213051353865) 276) K = K (.int .u64 (IntKind.u64.wrap (x * 285870213051353865))) w := fun _ w _ => by rw [rBinC, intV_mul, okOf_some]
theorem u64_bd (n : Int) : 0 ≤ IntKind.u64.wrap n ∧ IntKind.u64.wrap n < 18446744073709551616 := by simp [IntKind.wrap, IntKind.signed, IntKind.bits]; omega
theorem tzI_lt (x : Int) : 0 ≤ (IntKind.u64.wrap (tzA x * 285870213051353865)).fdiv (2 ^ 58) ∧ tzI x < 64 := by
 unfold tzI
 obtain ⟨h1, h2⟩ := u64_bd (tzA x * 285870213051353865)
 generalize IntKind.u64.wrap (tzA x * 285870213051353865) = n at *
 rw [Int.fdiv_eq_ediv_of_nonneg _ (by decide)]
 omega
theorem ia375 (n : Nat) (i2 : n < 64) : Pur pr (sIA 278 (pt gTz 0) (.int .u64 (n : Int))) (pt gTz n) := by
 have hun : ∀ w, (underlying 278).run pr w = .ok (.array 64 5) w := by intro w; kernel_rfl
 have hso : ∀ w, (sizeOf 5).run pr w = .ok 1 w := by intro w; kernel_rfl
 intro w
 simp [sIA, opc, execOp, ev, Instr.indexAt, asIntOf, hun, hso, i2, Addr.add, Instr.sureAddr]
 try omega
theorem tzA_eq (x : Int) : IntKind.u64.wrap (BitVec.ofInt 64 x &&& BitVec.ofInt 64 (IntKind.u64.wrap (0 - x))).toNat = tzA x := by unfold tzA; rfl
theorem tzI_eq (x : Int) : (IntKind.u64.wrap (tzA x * 285870213051353865)).fdiv (2 ^ 58) = ((tzI x : Nat) : Int) := by
 have := (tzI_lt x).1
 unfold tzI
 generalize (IntKind.u64.wrap (tzA x * 285870213051353865)).fdiv (2 ^ 58) = z at *
 omega
theorem tz64_ok {T : Nat → Int} (x : Int) {w : World} (hT : TabT T w) : Calls pr n_math_bits_TrailingZeros64 #[.int .u64 x] w fun e w' => e = .returned (vi (tzV T x)) ∧ w' = w := by
 refine sh_math_bits_TrailingZeros64_ok _ _ _ ?_
 unfold sh_math_bits_TrailingZeros64
 simp only [↓eq0_ok]
 refine Iv.condJ (p := x = 0) rfl (fun h => ?_) (fun h => ?_)
 ·subst h; exact ⟨rfl, trivial⟩
 ·obtain ⟨i1, i2⟩ := tzI_lt x
  have e := tzI_eq x
  obtain ⟨h0, cs, t, f, h1, h2⟩ := hT
  have pi := ia375 _ i2
  have e2 := tzA_eq x
  have hc : cs[tzI x]? = some (.int .u8 (T (tzI x))) := h2 _ i2
  have hw : IntKind.i64.wrap (T (tzI x)) = T (tzI x) := wr (by have := (h0 (tzI x)).1; omega) (by have := (h0 (tzI x)).2; omega)
  simp only [↓and_ok, ↓mul_ok, ↓shr_ok, ↓rNeg, e2, e]
  show o pr _ w (sIA 278 (pt gTz 0) _) _
  rw [pi.o]
  simp only [h1, hc, hw, ↓RTq, ↓RT6, ↓RT, ↓RG, RV]
  exact ⟨by unfold tzV; rw [if_neg h], trivial⟩
theorem tz_ok {T : Nat → Int} (x : Int) {w : World} (hT : TabT T w) : Calls pr n_math_bits_TrailingZeros #[.int .u64 x] w fun e w' => e = .returned (vi (tzV T x)) ∧ w' = w := by
 refine sh_math_bits_TrailingZeros_ok _ _ _ ?_
 unfold sh_math_bits_TrailingZeros
 simp only [↓RTq, ↓RT6, ↓RT, ↓RG, RV]
 refine cl_of (tz64_ok x hT) ?_
 rintro e w2 ⟨rfl, rfl⟩
 exact ⟨rfl, rfl⟩
def pwT (T : Nat → Int) (k : Int) : Int := ((2 ^ (min 16 (tzV T k)).toNat : Nat) : Int)
theorem pwT_ok (T : Nat → Int) : PwOk (pwT T) := by
 intro k
 unfold pwT
 have h : (min 16 (tzV T k)).toNat ≤ 16 := by omega
 have h1 : 2 ^ (min 16 (tzV T k)).toNat ≤ 2 ^ 16 := Nat.pow_le_pow_right (by omega) h
 have h2 : 0 < 2 ^ (min 16 (tzV T k)).toNat := Nat.pow_pos (by omega)
 omega
end Go.Inv
namespace Go.Inv
open Go.Sh
theorem shl_ok : ∀ t : Nat, t ≤ 16 → ∀ w : World, (sBinL .shl 3 (vi 1) (vi t) 3).run pr w = .ok (.value (vi ((2 ^ t : Nat) : Int))) w
 | 0, _, w => by kernel_rfl
 | 1, _, w => by kernel_rfl
 | 2, _, w => by kernel_rfl
 | 3, _, w => by kernel_rfl
 | 4, _, w => by kernel_rfl
 | 5, _, w => by kernel_rfl
 | 6, _, w => by kernel_rfl
 | 7, _, w => by kernel_rfl
 | 8, _, w => by kernel_rfl
 | 9, _, w => by kernel_rfl
 | 10, _, w => by kernel_rfl
 | 11, _, w => by kernel_rfl
 | 12, _, w => by kernel_rfl
 | 13, _, w => by kernel_rfl
 | 14, _, w => by kernel_rfl
 | 15, _, w => by kernel_rfl
 | 16, _, w => by kernel_rfl
 | n + 17, h, _ => by omega
theorem al_Cls (w : World) : (sAlloc tyCls).run pr w = .ok (.value (pt w.heap.size 0)) (w.alloc (.cells #[vi 0, vi 0] tyCls)) := by kernel_rfl
theorem bd_Cls (a b : Int) (w : World) : (sBuild tyCls [(0, vi a), (1, vi b)]).run pr w = .ok (.value (.agg #[vi a, vi b])) w := by kernel_rfl
theorem bd_Cls0 (w : World) : (sBuild tyCls []).run pr w = .ok (.value (.agg #[vi 0, vi 0])) w := by kernel_rfl
theorem rAlCls : ∀ E w K, o pr E w (sAlloc tyCls) K = K (pt w.heap.size 0) (w.alloc (.cells #[vi 0, vi 0] tyCls)) := fun _ w _ => o_val (al_Cls w)
theorem rBdCls : ∀ E w K a b, o pr E w (sBuild tyCls [(0, vi a), (1, vi b)]) K = K (.agg #[vi a, vi b]) w := fun _ w _ a b => o_val (bd_Cls a b w)
theorem rBdCls0 : ∀ E w K, o pr E w (sBuild tyCls []) K = K (.agg #[vi 0, vi 0]) w := fun _ w _ => o_val (bd_Cls0 w)
def RLc := And.intro rAlCls <| And.intro rBdCls <| And.intro rBdCls0 (rRs ag100)
theorem rMn (a b : Int) : ∀ E w K, o pr E w (sB .min [3, 3] 3 [vi a, vi b]) K = K (vi (min a b)) w := fun _ w _ => o_val (run_min a b w)
theorem u64_id {k : Int} (h0 : 0 ≤ k) (h1 : k ≤ 1099511627776) : IntKind.u64.wrap k = ((k.toNat : Nat) : Int) := by simp [IntKind.wrap, IntKind.signed, IntKind.bits]; omega
theorem even_ok {T : Nat → Int} {k v : Int} (h0 : 0 ≤ k) (h1 : k ≤ 1099511627776) {w : World} (hT : TabT T w) : Calls pr n_domain_even #[vi k, vi v] w (Ret (clV (evenT (pwT T) k v)) w) := by
 refine sh_domain_even_ok _ _ _ _ ?_
 unfold sh_domain_even
 simp only [↓RLc, ↓RM, ↓RT6, ↓RT, ↓RG, RV]
 rw [u64_id h0 h1]
 have ho : Old w (w.alloc (.cells #[vi 0, vi 0] tyCls)) := (Old.refl w).alloc _
 have hb : (w.alloc (.cells #[vi 0, vi 0] tyCls)).heap[w.heap.size]? = some (.cells #[vi 0, vi 0] tyCls (0, 0)) := heap_alloc_self _
 generalize w.alloc (.cells #[vi 0, vi 0] tyCls) = w1 at *
 refine cl_of (tz_ok _ (hT.old ho)) ?_
 rintro e w2 ⟨rfl, rfl⟩
 rw [show ((k.toNat : Nat) : Int) = k by omega]
 obtain ⟨hpos, hle⟩ := pwT_ok T k
 have ht : 0 ≤ tzV T k := by
  unfold tzV
  split
  ·omega
  ·exact (hT.ok _).1
 have hp : pwT T k = ((2 ^ (min 16 (tzV T k)).toNat : Nat) : Int) := rfl
 have hm : min 16 (tzV T k) = (((min 16 (tzV T k)).toNat : Nat) : Int) := by omega
 simp only [endK, ↓rMn _ _]
 rw [hm, o_val (shl_ok _ (show (min 16 (tzV T k)).toNat ≤ 16 by omega) _), ← hp]
 refine cl_of (left_ok hpos (by omega) w2) ?_
 rintro e w3 ⟨rfl, rfl⟩
 simp only [endK, ↓RLc, ↓RM, ↓RT6, ↓RT, ↓RG, RV, hb, Lm, Lc, Iv.Lw, eqA, eqB, eqC, Nat.reduceAdd, Nat.reduceEqDiff, ↓reduceIte, putL, List.all_cons, List.all_nil]
 exact ⟨rfl, (ho.put (by omega)).put (by omega)⟩
end Go.Inv
namespace Go.Inv
open Go.Sh
def opT (g : UInt8) (a b : Int) : Value := match opV g a b with
 | some n => .tuple #[i16 n, .bool true]
 | none => .tuple #[i16 0, .bool false]
theorem exact_ok {g : UInt8} {a b : Int} (hg : SignOk g) (ha : I16 a) (hb : I16 b) (w : World) : Calls pr n_domain_exact #[.int .u8 g.toNat, i16 a, i16 b] w fun e w' => e = .returned (opT g a b) ∧ w' = w := by
 refine sh_domain_exact_ok _ _ _ _ _ ?_
 unfold sh_domain_exact
 have hz : (b == (0 : Int)) = decide (b = 0) := rfl
 rcases hg with rfl | rfl | rfl | rfl | rfl
 ·simp only [show ((((43 : UInt8).toNat : Nat) : Int) == 43) = true from rfl, ↓RT6, ↓RT, ↓RG, RV, wrap_w16]
  exact ⟨rfl, trivial⟩
 ·simp only [show ((((45 : UInt8).toNat : Nat) : Int) == 43) = false from rfl, show ((((45 : UInt8).toNat : Nat) : Int) == 45) = true from rfl, ↓RT6, ↓RT, ↓RG, RV, wrap_w16]
  exact ⟨rfl, trivial⟩
 ·simp only [show ((((42 : UInt8).toNat : Nat) : Int) == 43) = false from rfl, show ((((42 : UInt8).toNat : Nat) : Int) == 45) = false from rfl, show ((((42 : UInt8).toNat : Nat) : Int) == 42) = true from rfl, ↓RT6, ↓RT, ↓RG, RV, wrap_w16]
  exact ⟨rfl, trivial⟩
 ·simp only [show ((((47 : UInt8).toNat : Nat) : Int) == 43) = false from rfl, show ((((47 : UInt8).toNat : Nat) : Int) == 45) = false from rfl, show ((((47 : UInt8).toNat : Nat) : Int) == 42) = false from rfl, show ((((47 : UInt8).toNat : Nat) : Int) == 47) = true from rfl, ↓RT6, ↓RT, ↓RG, RV, wrap_w16]
  refine Iv.condJ (p := b = 0) hz (fun h => ?_) (fun h => ?_)
  ·subst h; exact ⟨rfl, trivial⟩
  ·have hq : intV .quo .i16 a b = some (i16 (IntKind.i16.wrap (a.tdiv b))) := by simp only [intV, if_neg h]
   simp only [↓RT6, ↓RT, ↓RG, RV, hq, wrap_w16]
   exact ⟨by unfold opT opV; simp [h], trivial⟩
 ·simp only [show ((((37 : UInt8).toNat : Nat) : Int) == 43) = false from rfl, show ((((37 : UInt8).toNat : Nat) : Int) == 45) = false from rfl, show ((((37 : UInt8).toNat : Nat) : Int) == 42) = false from rfl, show ((((37 : UInt8).toNat : Nat) : Int) == 47) = false from rfl, ↓RT6, ↓RT, ↓RG, RV, wrap_w16]
  refine Iv.condJ (p := b = 0) hz (fun h => ?_) (fun h => ?_)
  ·subst h; exact ⟨rfl, trivial⟩
  ·have hq : intV .rem .i16 a b = some (i16 (a.tmod b)) := by simp only [intV, if_neg h]
   have hw : w16 (a.tmod b) = a.tmod b := by
    refine w16_id ?_ ?_
    ·have := Int.natAbs_tmod a b
     have h2 : a.natAbs % b.natAbs ≤ a.natAbs := Nat.mod_le _ _
     have h3 : a.natAbs % b.natAbs < b.natAbs := Nat.mod_lt _ (by omega)
     unfold I16 at hb; omega
    ·have := Int.natAbs_tmod a b
     have h3 : a.natAbs % b.natAbs < b.natAbs := Nat.mod_lt _ (by omega)
     unfold I16 at hb; omega
   simp only [↓RT6, ↓RT, ↓RG, RV, hq]
   exact ⟨by unfold opT opV; simp [h, hw], trivial⟩
theorem InvC.sml {x : Cls} (h : InvC x) : 0 ≤ x.m ∧ x.m ≤ 65536 ∧ -65536 ≤ x.r ∧ x.r ≤ 65536 := by
 unfold InvC I16 at h; omega
theorem in_ok {x : Cls} {n : Int} (hx : InvC x) (hn : -1000000000000 ≤ n ∧ n ≤ 1000000000000) (w : World) : Calls pr n_domain_Class_in #[clV x, vi n] w (Ret (.bool (inC x n)) w) := by
 refine sh_domain_Class_in_ok _ _ _ _ ?_
 unfold sh_domain_Class_in
 obtain ⟨x1, x2, x3, x4⟩ := hx.sml
 have hw : IntKind.i64.wrap (n - x.r) = n - x.r := wr (by omega) (by omega)
 simp only [↓RLc, ↓RM, ↓RT6, ↓RT, ↓RG, RV, Lm, Lc, eqA, eqB, eqC, Nat.reduceAdd, Nat.reduceEqDiff, ↓reduceIte, putL, List.all_cons, List.all_nil, hw]
 refine Iv.condJ (p := x.m = 0) rfl (fun h => ?_) (fun h => ?_)
 ·refine ⟨by unfold inC; rw [if_pos h], ?_⟩
  simp (maxDischargeDepth := 60) only [OLD, size_alloc, size_put]
 ·have ho : Old w (w.alloc (.cells #[vi x.m, vi x.r] tyCls)) := (Old.refl w).alloc _
  generalize w.alloc (.cells #[vi x.m, vi x.r] tyCls) = w1 at *
  refine cl_of (left_ok (by omega) (by omega) w1) ?_
  rintro e w2 ⟨rfl, rfl⟩
  simp only [endK, ↓RT6, ↓RT, ↓RG, RV]
  exact ⟨by unfold inC; rw [if_neg h], ho⟩
theorem conly_ok (sv : Value) (n : Int) (w : World) : Calls pr n_dc_Only #[sv, vi n] w (Ret (clV ⟨0, n⟩) w) := by
 refine sh_dc_Only_ok _ _ _ _ ?_
 unfold sh_dc_Only
 simp only [↓RLc, ↓RM, ↓RT6, ↓RT, ↓RG, RV, Lm, Lc, eqA, eqB, eqC, Nat.reduceAdd, Nat.reduceEqDiff, ↓reduceIte, putL, List.all_cons, List.all_nil]
 exact ⟨rfl, by simp (maxDischargeDepth := 60) only [OLD, size_alloc, size_put]⟩
theorem cwhole_ok (sv : Value) (w : World) : Calls pr n_dc_Whole #[sv] w (Ret (clV ⟨1, 0⟩) w) := by
 refine sh_dc_Whole_ok _ _ _ ?_
 unfold sh_dc_Whole
 simp only [↓RLc, ↓RM, ↓RT6, ↓RT, ↓RG, RV, Lm, Lc, eqA, eqB, eqC, Nat.reduceAdd, Nat.reduceEqDiff, ↓reduceIte, putL, List.all_cons, List.all_nil]
 exact ⟨rfl, by simp (maxDischargeDepth := 60) only [OLD, size_alloc, size_put]⟩
theorem czero_ok (sv : Value) (x : Cls) (w : World) : Calls pr n_dc_Zero #[sv, clV x] w (Ret (.bool (x.r == 0)) w) := by
 refine sh_dc_Zero_ok _ _ _ _ ?_
 unfold sh_dc_Zero
 simp only [↓RLc, ↓RM, ↓RT6, ↓RT, ↓RG, RV, Lm, Lc, eqA, eqB, eqC, Nat.reduceAdd, Nat.reduceEqDiff, ↓reduceIte, putL, List.all_cons, List.all_nil]
 exact ⟨rfl, by simp (maxDischargeDepth := 60) only [OLD, size_alloc, size_put]⟩
theorem cwiden_ok (sv : Value) (i j : Cls) (w : World) : Calls pr n_dc_Widen #[sv, clV i, clV j] w (Ret (clV j) w) := by
 refine sh_dc_Widen_ok _ _ _ _ _ ?_
 unfold sh_dc_Widen
 simp only [↓RLc, ↓RM, ↓RT6, ↓RT, ↓RG, RV, Lm, Lc, eqA, eqB, eqC, Nat.reduceAdd, Nat.reduceEqDiff, ↓reduceIte, putL, List.all_cons, List.all_nil]
 exact ⟨rfl, by simp (maxDischargeDepth := 60) only [OLD, size_alloc, size_put]⟩
theorem cnarrow_ok (sv : Value) (i n : Cls) (w : World) : Calls pr n_dc_Narrow #[sv, clV i, clV n] w (Ret (clV i) w) := by
 refine sh_dc_Narrow_ok _ _ _ _ _ ?_
 unfold sh_dc_Narrow
 simp only [↓RLc, ↓RM, ↓RT6, ↓RT, ↓RG, RV, Lm, Lc, eqA, eqB, eqC, Nat.reduceAdd, Nat.reduceEqDiff, ↓reduceIte, putL, List.all_cons, List.all_nil]
 exact ⟨rfl, by simp (maxDischargeDepth := 60) only [OLD, size_alloc, size_put]⟩
theorem ctell_ok (sv : Value) (x : Cls) (w : World) : Calls pr n_dc_Tell #[sv, clV x] w (Ret (clV x) w) := by
 refine sh_dc_Tell_ok _ _ _ _ ?_
 unfold sh_dc_Tell
 simp only [↓RVal, ↓RLc, ↓RM, ↓RT6, ↓RT, ↓RG, RV, Lm, Lc, eqA, eqB, eqC, Nat.reduceAdd, Nat.reduceEqDiff, ↓reduceIte, putL, List.all_cons, List.all_nil]
 exact ⟨rfl, by simp (maxDischargeDepth := 60) only [OLD, size_alloc, size_put]⟩
theorem cminus_ok (sv : Value) {x : Cls} (hx : InvC x) {T : Nat → Int} {w : World} (hT : TabT T w) : Calls pr n_dc_Minus #[sv, clV x] w (Ret (clV ((classesT (pwT T)).minus x)) w) := by
 refine sh_dc_Minus_ok _ _ _ _ ?_
 unfold sh_dc_Minus
 obtain ⟨x1, x2, x3, x4⟩ := hx.sml
 have hw : IntKind.i64.wrap (0 - x.r) = -x.r := by rw [wr (by omega) (by omega)]; omega
 simp only [↓RLc, ↓RM, ↓RT6, ↓RT, ↓RG, RV, Lm, Lc, eqA, eqB, eqC, Nat.reduceAdd, Nat.reduceEqDiff, ↓reduceIte, putL, List.all_cons, List.all_nil, hw]
 refine Iv.condJ (p := x.m = 0) rfl (fun h => ?_) (fun h => ?_)
 ·have hr : I16 x.r := by unfold InvC at hx; rcases hx with hx | hx; exact hx.2; omega
  have e1 : IntKind.i16.wrap x.r = x.r := by rw [wrap_w16]; exact w16_id hr.1 hr.2
  have e2 : IntKind.i16.wrap (0 - x.r) = w16 (-x.r) := by rw [wrap_w16]; congr 1; omega
  have e3 : IntKind.i64.wrap (w16 (-x.r)) = w16 (-x.r) := by have := w16_ge (-x.r); have := w16_le (-x.r); exact wr (by omega) (by omega)
  simp only [e1, e2, e3, ↓RLc, ↓RM, ↓RT6, ↓RT, ↓RG, RV, Lm, Lc, eqA, eqB, eqC, Nat.reduceAdd, Nat.reduceEqDiff, ↓reduceIte, putL, List.all_cons, List.all_nil]
  refine ⟨by show _ = Ending.returned (clV (if x.m = 0 then _ else _)); rw [if_pos h], by simp (maxDischargeDepth := 60) only [OLD, size_alloc, size_put]⟩
 ·have ho : Old w (((w.alloc (.cells sv.cells 104)).alloc (.cells #[vi x.m, vi x.r] 100)).alloc (.cells #[vi 0, vi 0] tyCls)) := by simp (maxDischargeDepth := 60) only [OLD, size_alloc, size_put]
  have hb : (((w.alloc (.cells sv.cells 104)).alloc (.cells #[vi x.m, vi x.r] 100)).alloc (.cells #[vi 0, vi 0] tyCls)).heap[w.heap.size + 2]? = some (.cells #[vi 0, vi 0] tyCls (0, 0)) := by
   simp only [RV, Lm, Lc, eqA, eqB, eqC, Nat.reduceAdd, Nat.reduceEqDiff, ↓reduceIte]
  try simp only [↓RLc, ↓RM, ↓RT6, ↓RT, ↓RG, RV, Lm, Lc, eqA, eqB, eqC, Nat.reduceAdd, Nat.reduceEqDiff, ↓reduceIte, putL, List.all_cons, List.all_nil, hw]
  generalize (((w.alloc (.cells sv.cells 104)).alloc (.cells #[vi x.m, vi x.r] 100)).alloc (.cells #[vi 0, vi 0] tyCls)) = w1 at *
  refine cl_of (even_ok (by omega) (by omega) (hT.old ho)) ?_
  rintro e w2 ⟨rfl, ho2⟩
  simp only [endK, ↓RLc, ↓RM, ↓RT6, ↓RT, ↓RG, RV, ho2.heap hb, Lm, Lc, Iv.Lw, eqA, eqB, eqC, Nat.reduceAdd, Nat.reduceEqDiff, ↓reduceIte, putL, List.all_cons, List.all_nil]
  exact ⟨by show _ = Ending.returned (clV (if x.m = 0 then _ else _)); rw [if_neg h], ((ho.trans ho2).put (by omega)).put (by omega)⟩
end Go.Inv
namespace Go.Inv
open Go.Sh
theorem u155 : pr.underlying 100 = some (.struct (pr.fieldsOf 100)) := by kernel_rfl
theorem s155 : pr.stoodInHeld 100 = false := by kernel_rfl
theorem g155 : pr.eqGuardType pr.depth 100 = false := by kernel_rfl
theorem f155 : ∃ f g, (pr.fieldsOf 100).toList = [f, g] ∧ f.name = "Mod" ∧ g.name = "Rest" ∧ f.type = 3 ∧ f.offset = 0 ∧ g.type = 3 ∧ g.offset = 1 :=
 ⟨(pr.fieldsOf 100).toList[0]!, (pr.fieldsOf 100).toList[1]!, by kernel_rfl, by kernel_rfl, by kernel_rfl, by kernel_rfl, by kernel_rfl, by kernel_rfl, by kernel_rfl⟩
theorem eqCl (d : Nat) (x y : Cls) (w : World) : (Op.equalIn (d + 2) 100 (clV x) (clV y)).run pr w = .ok (decide (x = y)) w := by
 rw [run_equalIn_struct w (d + 1) 100 _ _ u155 s155]
 obtain ⟨f, g, hfg, hf, hg, ft, fo, gt, go⟩ := f155
 have hp1 : ∀ a b : Int, (part 3 #[vi a, vi b] 0).run pr w = .ok (vi a) w := fun a b => by simp [part, isAgg, run_underlying u3]
 have hp2 : ∀ a b : Int, (part 3 #[vi a, vi b] 1).run pr w = .ok (vi b) w := fun a b => by simp [part, isAgg, run_underlying u3]
 rw [hfg]
 have n1 : f.name ≠ "_" := by rw [hf]; decide
 have n2 : g.name ≠ "_" := by rw [hg]; decide
 simp only [Op.eqFields, ne_eq, n1, n2, not_false_eq_true, if_true, Sem.run_bind, ft, fo, gt, go, hp1, hp2, Result.andThen_ok, run_equalIn_int w d 3 .i64 .i64 _ _ u3]
 obtain ⟨a, b⟩ := x
 obtain ⟨a', b'⟩ := y
 by_cases ha : a = a'
 ·subst ha
  by_cases hb : b = b'
  ·subst hb; simp [hp2, run_equalIn_int w d 3 .i64 .i64 _ _ u3]
  ·simp [hp2, run_equalIn_int w d 3 .i64 .i64 _ _ u3, hb]
 ·simp [ha]
theorem eql_cl (x y : Cls) (w : World) : (sBin .eql 100 (clV x) (clV y) 100).run pr w = .ok (.value (.bool (decide (x = y)))) w := by
 simp only [sBin, execOp]
 have hb : (Nat.beq 1 0) = false := rfl
 simp [ev, hb, run_eqGuard_agg w _ _ _ _ _ _ g155, run_eql_struct, eqCl 9998 x y w]
theorem rEqCl : ∀ E w K a b c d, o pr E w (sBin .eql 100 (.agg #[vi a, vi b]) (.agg #[vi c, vi d]) 100) K = K (.bool (decide ((⟨a, b⟩ : Cls) = ⟨c, d⟩))) w := fun _ w _ a b c d => o_val (eql_cl ⟨a, b⟩ ⟨c, d⟩ w)
abbrev ClAt (w : World) (b : Nat) (x : Cls) : Prop := w.heap[b]? = some (.cells #[vi x.m, vi x.r] 100 (0, 0))
theorem dvd_sml {a b : Int} (ha : Sml a) (hb : Sml b) : gcdV a b ≤ 1099511627776 := by
 by_cases h : a = 0
 ·subst h
  unfold gcdV
  rw [Int.gcd_zero_left]
  unfold Sml at hb; omega
 ·have h1 := Int.le_of_dvd (a := gcdV a b) (b := (a.natAbs : Int)) (by omega) (Int.dvd_natAbs.2 (gcd_l a b))
  unfold Sml at ha; omega
theorem gcd_sml {a b : Int} (ha : Sml a) (hb : Sml b) : Sml (gcdV a b) := by
 have h1 := gcd_nn a b
 have h2 := dvd_sml ha hb
 unfold Sml; omega
theorem cjoin_ok (sv : Value) {x y : Cls} (hx : InvC x) (hy : InvC y) (w : World) : Calls pr n_dc_Join #[sv, clV x, clV y] w (Ret (clV (joinC x y)) w) := by
 refine sh_dc_Join_ok _ _ _ _ _ ?_
 unfold sh_dc_Join
 obtain ⟨x1, x2, x3, x4⟩ := hx.sml
 obtain ⟨y1, y2, y3, y4⟩ := hy.sml
 have hw : IntKind.i64.wrap (x.r - y.r) = x.r - y.r := wr (by omega) (by omega)
 simp only [↓RLc, ↓RM, ↓RT6, ↓RT, ↓RG, RV, Lm, Lc, eqA, eqB, eqC, Nat.reduceAdd, Nat.reduceEqDiff, ↓reduceIte, hw]
 have ho : Old w (dr ((((w.alloc (.cells sv.cells 104)).alloc (.cells #[vi x.m, vi x.r] 100)).alloc (.cells #[vi y.m, vi y.r] 100)).alloc (.cells #[vi 0, vi 0] tyCls))) := by simp (maxDischargeDepth := 60) only [OLD, size_alloc, size_put]
 have b1 : ClAt (dr ((((w.alloc (.cells sv.cells 104)).alloc (.cells #[vi x.m, vi x.r] 100)).alloc (.cells #[vi y.m, vi y.r] 100)).alloc (.cells #[vi 0, vi 0] tyCls))) (w.heap.size + 1) x := by
  simp only [ClAt, RV, Lm, Lc, eqA, eqB, eqC, Nat.reduceAdd, Nat.reduceEqDiff, ↓reduceIte]
 have b2 : ClAt (dr ((((w.alloc (.cells sv.cells 104)).alloc (.cells #[vi x.m, vi x.r] 100)).alloc (.cells #[vi y.m, vi y.r] 100)).alloc (.cells #[vi 0, vi 0] tyCls))) (w.heap.size + 2) y := by
  simp only [ClAt, RV, Lm, Lc, eqA, eqB, eqC, Nat.reduceAdd, Nat.reduceEqDiff, ↓reduceIte]
 have b3 : ClAt (dr ((((w.alloc (.cells sv.cells 104)).alloc (.cells #[vi x.m, vi x.r] 100)).alloc (.cells #[vi y.m, vi y.r] 100)).alloc (.cells #[vi 0, vi 0] tyCls))) (w.heap.size + 3) ⟨0, 0⟩ := by
  simp only [ClAt, RV, Lm, Lc, eqA, eqB, eqC, Nat.reduceAdd, Nat.reduceEqDiff, ↓reduceIte]
 generalize dr ((((w.alloc (.cells sv.cells 104)).alloc (.cells #[vi x.m, vi x.r] 100)).alloc (.cells #[vi y.m, vi y.r] 100)).alloc (.cells #[vi 0, vi 0] tyCls)) = w1 at *
 refine cl_of (gcd_ok (by unfold Sml; omega) (by unfold Sml; omega) w1) ?_
 rintro e w2 ⟨rfl, ho2⟩
 have g1 : Sml (gcdV x.m y.m) := gcd_sml (by unfold Sml; omega) (by unfold Sml; omega)
 simp only [endK, ↓RLc, ↓RM, ↓RT6, ↓RT, ↓RG, RV, ho2.heap b1, ho2.heap b2]
 refine cl_of (gcd_ok g1 (by unfold Sml; omega) w2) ?_
 rintro e w3 ⟨rfl, ho3⟩
 have hoo := ho2.trans ho3
 simp only [endK, ↓RLc, ↓RM, ↓RT6, ↓RT, ↓RG, RV]
 refine Iv.condJ (p := gcdV (gcdV x.m y.m) (x.r - y.r) = 0) rfl (fun h => ?_) (fun h => ?_)
 ·simp only [↓RLc, ↓RM, ↓RT6, ↓RT, ↓RG, RV, hoo.heap b1, hoo.heap b3, Lm, Lc, Iv.Lw, eqA, eqB, eqC, Nat.reduceAdd, Nat.reduceEqDiff, ↓reduceIte, putL, List.all_cons, List.all_nil]
  exact ⟨by unfold joinC; rw [if_pos h], ((ho.trans hoo).put (by omega)).put (by omega)⟩
 ·have hp : 0 < gcdV (gcdV x.m y.m) (x.r - y.r) := by have := gcd_nn (gcdV x.m y.m) (x.r - y.r); omega
  simp only [↓RLc, ↓RM, ↓RT6, ↓RT, ↓RG, RV, hoo.heap b1, Lc]
  refine cl_of (left_ok hp (dvd_sml g1 (by unfold Sml; omega)) w3) ?_
  rintro e w4 ⟨rfl, rfl⟩
  simp only [endK, ↓RLc, ↓RM, ↓RT6, ↓RT, ↓RG, RV, hoo.heap b3, Lm, Lc, Iv.Lw, eqA, eqB, eqC, Nat.reduceAdd, Nat.reduceEqDiff, ↓reduceIte, putL, List.all_cons, List.all_nil]
  exact ⟨by unfold joinC; rw [if_neg h], ((ho.trans hoo).put (by omega)).put (by omega)⟩
end Go.Inv
namespace Go.Inv
open Go.Sh
theorem mul_bd {a b : Int} (ha : -65536 ≤ a ∧ a ≤ 65536) (hb : -65536 ≤ b ∧ b ≤ 65536) : -4294967296 ≤ a * b ∧ a * b ≤ 4294967296 := by
 have h1 : (a * b).natAbs = a.natAbs * b.natAbs := Int.natAbs_mul a b
 have h2 : a.natAbs * b.natAbs ≤ 65536 * 65536 := Nat.mul_le_mul (by omega) (by omega)
 omega
structure TwAt (w0 w : World) (x y : Cls) (b : Nat) : Prop where
 old : Old w0 w
 lo : w0.heap.size ≤ b
 x : ClAt w (b + 1) x
 y : ClAt w (b + 2) y
 z : ClAt w (b + 3) ⟨0, 0⟩
theorem TwAt.next {w0 w w' : World} {x y : Cls} {b : Nat} (h : TwAt w0 w x y b) (ho : Old w w') : TwAt w0 w' x y b :=
 ⟨h.old.trans ho, h.lo, ho.heap h.x, ho.heap h.y, ho.heap h.z⟩
theorem TwAt.fin {w0 w : World} {x y : Cls} {b : Nat} (h : TwAt w0 w x y b) (u v : Value) : Old w0 (put (put w (b + 3) 0 u) (b + 3) 1 v) :=
 (h.old.put (by have := h.lo; omega)).put (by have := h.lo; omega)
theorem tw_start (w : World) (sv : Value) (x y : Cls) : TwAt w ((((w.alloc (.cells sv.cells 104)).alloc (.cells #[vi x.m, vi x.r] 100)).alloc (.cells #[vi y.m, vi y.r] 100)).alloc (.cells #[vi 0, vi 0] tyCls)) x y w.heap.size := by
 refine ⟨by simp (maxDischargeDepth := 60) only [OLD, size_alloc, size_put], Nat.le_refl _, ?_, ?_, ?_⟩ <;>
  simp only [ClAt, RV, Lm, Lc, eqA, eqB, eqC, Nat.reduceAdd, Nat.reduceEqDiff, ↓reduceIte]
theorem tw_dr {w0 w : World} {x y : Cls} {b : Nat} (h : TwAt w0 w x y b) : TwAt w0 (dr w) x y b := h.next (Old.refl w).dr
theorem ctwo_ok (sv : Value) {g : UInt8} {x y : Cls} (hg : SignOk g) (hx : InvC x) (hy : InvC y) {T : Nat → Int} {w : World} (hT : TabT T w) :
 Calls pr n_dc_Two #[sv, .int .u8 g.toNat, clV x, clV y] w (Ret (tup2 (clV (twoT (pwT T) g x y).1) (twoT (pwT T) g x y).2) w) := by
 refine sh_dc_Two_ok _ _ _ _ _ _ ?_
 unfold sh_dc_Two
 obtain ⟨x1, x2, x3, x4⟩ := hx.sml
 obtain ⟨y1, y2, y3, y4⟩ := hy.sml
 have h0 := tw_start w sv x y
 have hn : w.heap.size + 4 = ((((w.alloc (.cells sv.cells 104)).alloc (.cells #[vi x.m, vi x.r] 100)).alloc (.cells #[vi y.m, vi y.r] 100)).alloc (.cells #[vi 0, vi 0] tyCls)).heap.size := by simp only [size_alloc, Nat.add_assoc, Nat.reduceAdd]
 by_cases hz : x.m = 0 ∧ y.m = 0
 ·have e : twoT (pwT T) g x y = match opV g x.r y.r with | some n => (⟨0, n⟩, true) | none => (⟨0, 0⟩, false) := by unfold twoT; rw [if_pos hz]; try rfl
  rw [e]
  have rx : I16 x.r := by rcases hx with h | h; exact h.2; omega
  have ry : I16 y.r := by rcases hy with h | h; exact h.2; omega
  have d1 : (x.m == 0) = true := by simpa using hz.1
  have d2 : (y.m == 0) = true := by simpa using hz.2
  have e1 : IntKind.i16.wrap x.r = x.r := by rw [wrap_w16]; exact w16_id rx.1 rx.2
  have e2 : IntKind.i16.wrap y.r = y.r := by rw [wrap_w16]; exact w16_id ry.1 ry.2
  simp only [d1, d2, e1, e2, cond_true, ↓RLc, ↓RM, ↓RT6, ↓RT, ↓RG, RV, Lm, Lc, eqA, eqB, eqC, Nat.reduceAdd, Nat.reduceEqDiff, ↓reduceIte]
  generalize ((((w.alloc (.cells sv.cells 104)).alloc (.cells #[vi x.m, vi x.r] 100)).alloc (.cells #[vi y.m, vi y.r] 100)).alloc (.cells #[vi 0, vi 0] tyCls)) = w1 at *
  refine cl_of (exact_ok hg rx ry w1) ?_
  rintro e w2 ⟨rfl, rfl⟩
  have hi : ∀ n, opV g x.r y.r = some n → I16 n := fun n h => opV_i16 h
  cases ho : opV g x.r y.r with
  | some n =>
    have hn := hi n ho
    have e3 : IntKind.i64.wrap n = n := wr (by unfold I16 at hn; omega) (by unfold I16 at hn; omega)
    simp only [endK, opT, ho, e3, ↓RLc, ↓RM, ↓RT6, ↓RT, ↓RG, RV, h0.z, Lm, Lc, Iv.Lw, eqA, eqB, eqC, Nat.reduceAdd, Nat.reduceEqDiff, ↓reduceIte, putL, List.all_cons, List.all_nil]
    exact ⟨rfl, h0.fin _ _⟩
  | none =>
    have e3 : IntKind.i64.wrap 0 = 0 := rfl
    simp only [endK, opT, ho, e3, ↓RLc, ↓RM, ↓RT6, ↓RT, ↓RG, RV, h0.z, Lm, Lc, Iv.Lw, eqA, eqB, eqC, Nat.reduceAdd, Nat.reduceEqDiff, ↓reduceIte, putL, List.all_cons, List.all_nil]
    exact ⟨rfl, h0.fin _ _⟩
 ·have nb := gcd_bound hx hy hz
  have key : ((x.m == 0) = false ∧ (x.m == 0) = false) ∨ ((x.m == 0) = true ∧ (y.m == 0) = false) := by
   by_cases h : x.m = 0
   ·right; exact ⟨by simpa using h, by simp; omega⟩
   ·left; have : (x.m == 0) = false := by simpa using h
    exact ⟨this, this⟩
  have pm : x.m = 0 ∧ y.m = 0 ↔ False := by simp [hz]
  rcases key with ⟨d1, d2⟩ | ⟨d1, d2⟩
  all_goals
   simp only [d1, d2, cond_true, cond_false, ↓RLc, ↓RM, ↓RT6, ↓RT, ↓RG, RV, Lm, Lc, eqA, eqB, eqC, Nat.reduceAdd, Nat.reduceEqDiff, ↓reduceIte, putL, List.all_cons, List.all_nil]
   have h1 : TwAt w (put (put (((((w.alloc (.cells sv.cells 104)).alloc (.cells #[vi x.m, vi x.r] 100)).alloc (.cells #[vi y.m, vi y.r] 100)).alloc (.cells #[vi 0, vi 0] tyCls)).alloc (.cells #[vi 0, vi 0] tyCls)) (w.heap.size + 4) 0 (vi 0)) (w.heap.size + 4) 1 (vi 0)) x y w.heap.size :=
    h0.next ((((Old.refl _).alloc _).put (by omega)).put (by omega))
   have n1 : ClAt (put (put (((((w.alloc (.cells sv.cells 104)).alloc (.cells #[vi x.m, vi x.r] 100)).alloc (.cells #[vi y.m, vi y.r] 100)).alloc (.cells #[vi 0, vi 0] tyCls)).alloc (.cells #[vi 0, vi 0] tyCls)) (w.heap.size + 4) 0 (vi 0)) (w.heap.size + 4) 1 (vi 0)) (w.heap.size + 4) ⟨0, 0⟩ := by
    simp only [ClAt, RV, Lm, Lc, eqA, eqB, eqC, Nat.reduceAdd, Nat.reduceEqDiff, ↓reduceIte]
   generalize (put (put (((((w.alloc (.cells sv.cells 104)).alloc (.cells #[vi x.m, vi x.r] 100)).alloc (.cells #[vi y.m, vi y.r] 100)).alloc (.cells #[vi 0, vi 0] tyCls)).alloc (.cells #[vi 0, vi 0] tyCls)) (w.heap.size + 4) 0 (vi 0)) (w.heap.size + 4) 1 (vi 0)) = w1 at *
   clear h0 hn
   refine cl_of (gcd_ok (by unfold Sml; omega) (by unfold Sml; omega) w1) ?_
   rintro e w2 ⟨rfl, ho2⟩
   have h2 := h1.next ho2
   have n2 : ClAt w2 (w.heap.size + 4) ⟨0, 0⟩ := ho2.heap n1
   have hT2 := hT.old h2.old
   clear h1 n1 ho2
   rcases hg with rfl | rfl | rfl | rfl | rfl
   ·have e : twoT (pwT T) 43 x y = (evenT (pwT T) (gcdV x.m y.m) (x.r + y.r), true) := by unfold twoT; rw [if_neg hz, if_pos rfl]
    have hw : IntKind.i64.wrap (x.r + y.r) = x.r + y.r := wr (by omega) (by omega)
    rw [e]
    simp only [endK, show ((((43 : UInt8).toNat : Nat) : Int) == 43) = true from rfl, ↓RLc, ↓RM, ↓RT6, ↓RT, ↓RG, RV, h2.x, h2.y, hw]
    refine cl_of (even_ok (by omega) (by omega) hT2) ?_
    rintro e w3 ⟨rfl, ho3⟩
    have h3 := h2.next ho3
    simp only [endK, ↓RLc, ↓RM, ↓RT6, ↓RT, ↓RG, RV, h3.z, Lm, Lc, Iv.Lw, eqA, eqB, eqC, Nat.reduceAdd, Nat.reduceEqDiff, ↓reduceIte, putL, List.all_cons, List.all_nil]
    exact ⟨rfl, h3.fin _ _⟩
   ·have e : twoT (pwT T) 45 x y = (evenT (pwT T) (gcdV x.m y.m) (x.r - y.r), true) := by unfold twoT; rw [if_neg hz, if_neg (by decide), if_pos rfl]
    have hw : IntKind.i64.wrap (x.r - y.r) = x.r - y.r := wr (by omega) (by omega)
    rw [e]
    simp only [endK, show ((((45 : UInt8).toNat : Nat) : Int) == 43) = false from rfl, show ((((45 : UInt8).toNat : Nat) : Int) == 45) = true from rfl, ↓RLc, ↓RM, ↓RT6, ↓RT, ↓RG, RV, h2.x, h2.y, hw]
    refine cl_of (even_ok (by omega) (by omega) hT2) ?_
    rintro e w3 ⟨rfl, ho3⟩
    have h3 := h2.next ho3
    simp only [endK, ↓RLc, ↓RM, ↓RT6, ↓RT, ↓RG, RV, h3.z, Lm, Lc, Iv.Lw, eqA, eqB, eqC, Nat.reduceAdd, Nat.reduceEqDiff, ↓reduceIte, putL, List.all_cons, List.all_nil]
    exact ⟨rfl, h3.fin _ _⟩
   ·have e : twoT (pwT T) 42 x y = (if x = ⟨0, 0⟩ ∨ y = ⟨0, 0⟩ then (⟨0, 0⟩, true) else (evenT (pwT T) (gcdV (gcdV (x.m * y.m) (x.m * y.r)) (y.m * x.r)) (x.r * y.r), true)) := by unfold twoT; rw [if_neg hz, if_neg (by decide), if_neg (by decide), if_pos rfl]
    rw [e]
    have m1 := mul_bd (a := x.m) (b := y.m) (by omega) (by omega)
    have m2 := mul_bd (a := x.m) (b := y.r) (by omega) (by omega)
    have m3 := mul_bd (a := y.m) (b := x.r) (by omega) (by omega)
    have m4 := mul_bd (a := x.r) (b := y.r) (by omega) (by omega)
    have v1 : IntKind.i64.wrap (x.m * y.m) = x.m * y.m := wr (by omega) (by omega)
    have v2 : IntKind.i64.wrap (x.m * y.r) = x.m * y.r := wr (by omega) (by omega)
    have v3 : IntKind.i64.wrap (y.m * x.r) = y.m * x.r := wr (by omega) (by omega)
    have v4 : IntKind.i64.wrap (x.r * y.r) = x.r * y.r := wr (by omega) (by omega)
    by_cases hxy : x = ⟨0, 0⟩ ∨ y = ⟨0, 0⟩
    ·have c1 : decide ((⟨x.m, x.r⟩ : Cls) = ⟨0, 0⟩) = true ∨ (decide ((⟨x.m, x.r⟩ : Cls) = ⟨0, 0⟩) = false ∧ decide ((⟨y.m, y.r⟩ : Cls) = ⟨0, 0⟩) = true) := by
      show decide (x = ⟨0, 0⟩) = true ∨ (decide (x = ⟨0, 0⟩) = false ∧ decide (y = ⟨0, 0⟩) = true)
      by_cases h : x = ⟨0, 0⟩
      ·left; simpa using h
      ·right; simp [h]; exact hxy.resolve_left h
     rw [if_pos hxy]
     rcases c1 with c1 | ⟨c1, c2⟩
     ·simp only [endK, show ((((42 : UInt8).toNat : Nat) : Int) == 43) = false from rfl, show ((((42 : UInt8).toNat : Nat) : Int) == 45) = false from rfl, show ((((42 : UInt8).toNat : Nat) : Int) == 42) = true from rfl, ↓RLc, ↓RM, ↓RT6, ↓RT, ↓RG, RV, ↓rEqCl, h2.x, h2.y, h2.z, n2, c1, cond_true, Lm, Lc, Iv.Lw, eqA, eqB, eqC, Nat.reduceAdd, Nat.reduceEqDiff, ↓reduceIte, putL, List.all_cons, List.all_nil]
      exact ⟨rfl, h2.fin _ _⟩
     ·simp only [endK, show ((((42 : UInt8).toNat : Nat) : Int) == 43) = false from rfl, show ((((42 : UInt8).toNat : Nat) : Int) == 45) = false from rfl, show ((((42 : UInt8).toNat : Nat) : Int) == 42) = true from rfl, ↓RLc, ↓RM, ↓RT6, ↓RT, ↓RG, RV, ↓rEqCl, h2.x, h2.y, h2.z, n2, c1, c2, cond_true, cond_false, Lm, Lc, Iv.Lw, eqA, eqB, eqC, Nat.reduceAdd, Nat.reduceEqDiff, ↓reduceIte, putL, List.all_cons, List.all_nil]
      exact ⟨rfl, h2.fin _ _⟩
    ·have c1 : decide ((⟨x.m, x.r⟩ : Cls) = ⟨0, 0⟩) = false := by show decide (x = ⟨0, 0⟩) = false; simp; exact fun h => hxy (.inl h)
     have c2 : decide ((⟨y.m, y.r⟩ : Cls) = ⟨0, 0⟩) = false := by show decide (y = ⟨0, 0⟩) = false; simp; exact fun h => hxy (.inr h)
     rw [if_neg hxy]
     simp only [endK, show ((((42 : UInt8).toNat : Nat) : Int) == 43) = false from rfl, show ((((42 : UInt8).toNat : Nat) : Int) == 45) = false from rfl, show ((((42 : UInt8).toNat : Nat) : Int) == 42) = true from rfl, ↓RLc, ↓RM, ↓RT6, ↓RT, ↓RG, RV, ↓rEqCl, h2.x, h2.y, n2, c1, c2, cond_true, cond_false, v1, v2, v3, v4, Lm, Lc, Iv.Lw, eqA, eqB, eqC, Nat.reduceAdd, Nat.reduceEqDiff, ↓reduceIte, putL, List.all_cons, List.all_nil]
     refine cl_of (gcd_ok (by unfold Sml; omega) (by unfold Sml; omega) _) ?_
     rintro e w3 ⟨rfl, ho3⟩
     have h3 := (tw_dr h2).next ho3
     have s1 : Sml (gcdV (x.m * y.m) (x.m * y.r)) := gcd_sml (by unfold Sml; omega) (by unfold Sml; omega)
     simp only [endK, ↓RLc, ↓RM, ↓RT6, ↓RT, ↓RG, RV, h3.x, h3.y]
     refine cl_of (gcd_ok s1 (by unfold Sml; omega) _) ?_
     rintro e w4 ⟨rfl, ho4⟩
     have h4 := h3.next ho4
     simp only [endK, ↓RLc, ↓RM, ↓RT6, ↓RT, ↓RG, RV, h4.x, h4.y]
     refine cl_of (even_ok (gcd_nn _ _) (dvd_sml s1 (by unfold Sml; omega)) (hT.old h4.old)) ?_
     rintro e w5 ⟨rfl, ho5⟩
     have h5 := h4.next ho5
     simp only [endK, ↓RLc, ↓RM, ↓RT6, ↓RT, ↓RG, RV, h5.z, Lm, Lc, Iv.Lw, eqA, eqB, eqC, Nat.reduceAdd, Nat.reduceEqDiff, ↓reduceIte, putL, List.all_cons, List.all_nil]
     exact ⟨rfl, h5.fin _ _⟩
   ·by_cases hxy : y = ⟨0, 0⟩
    ·have c2 : decide ((⟨y.m, y.r⟩ : Cls) = ⟨0, 0⟩) = true := by show decide (y = ⟨0, 0⟩) = true; simpa using hxy
     have e : twoT (pwT T) 47 x y = (y, false) := by unfold twoT; rw [if_neg hz, if_neg (by decide), if_neg (by decide), if_neg (by decide), if_pos hxy]
     rw [e]
     simp only [endK, show ((((47 : UInt8).toNat : Nat) : Int) == 43) = false from rfl, show ((((47 : UInt8).toNat : Nat) : Int) == 45) = false from rfl, show ((((47 : UInt8).toNat : Nat) : Int) == 42) = false from rfl, ↓RLc, ↓RM, ↓RT6, ↓RT, ↓RG, RV, ↓rEqCl, h2.x, h2.y, h2.z, n2, c2, Lm, Lc, Iv.Lw, eqA, eqB, eqC, Nat.reduceAdd, Nat.reduceEqDiff, ↓reduceIte, putL, List.all_cons, List.all_nil]
     exact ⟨rfl, h2.fin _ _⟩
    ·have c2 : decide ((⟨y.m, y.r⟩ : Cls) = ⟨0, 0⟩) = false := by show decide (y = ⟨0, 0⟩) = false; simpa using hxy
     have e : twoT (pwT T) 47 x y = (⟨1, 0⟩, true) := by unfold twoT; rw [if_neg hz, if_neg (by decide), if_neg (by decide), if_neg (by decide), if_neg hxy, if_pos rfl]
     rw [e]
     simp only [endK, show ((((47 : UInt8).toNat : Nat) : Int) == 43) = false from rfl, show ((((47 : UInt8).toNat : Nat) : Int) == 45) = false from rfl, show ((((47 : UInt8).toNat : Nat) : Int) == 42) = false from rfl, show ((((47 : UInt8).toNat : Nat) : Int) == 47) = true from rfl, ↓RLc, ↓RM, ↓RT6, ↓RT, ↓RG, RV, ↓rEqCl, h2.x, h2.y, h2.z, n2, c2, Lm, Lc, Iv.Lw, eqA, eqB, eqC, Nat.reduceAdd, Nat.reduceEqDiff, ↓reduceIte, putL, List.all_cons, List.all_nil]
     exact ⟨rfl, h2.fin _ _⟩
   ·by_cases hxy : y = ⟨0, 0⟩
    ·have c2 : decide ((⟨y.m, y.r⟩ : Cls) = ⟨0, 0⟩) = true := by show decide (y = ⟨0, 0⟩) = true; simpa using hxy
     have e : twoT (pwT T) 37 x y = (y, false) := by unfold twoT; rw [if_neg hz, if_neg (by decide), if_neg (by decide), if_neg (by decide), if_pos hxy]
     rw [e]
     simp only [endK, show ((((37 : UInt8).toNat : Nat) : Int) == 43) = false from rfl, show ((((37 : UInt8).toNat : Nat) : Int) == 45) = false from rfl, show ((((37 : UInt8).toNat : Nat) : Int) == 42) = false from rfl, ↓RLc, ↓RM, ↓RT6, ↓RT, ↓RG, RV, ↓rEqCl, h2.x, h2.y, h2.z, n2, c2, Lm, Lc, Iv.Lw, eqA, eqB, eqC, Nat.reduceAdd, Nat.reduceEqDiff, ↓reduceIte, putL, List.all_cons, List.all_nil]
     exact ⟨rfl, h2.fin _ _⟩
    ·have c2 : decide ((⟨y.m, y.r⟩ : Cls) = ⟨0, 0⟩) = false := by show decide (y = ⟨0, 0⟩) = false; simpa using hxy
     have e : twoT (pwT T) 37 x y = (⟨gcdV (gcdV x.m y.m) y.r, leftV x.r (gcdV (gcdV x.m y.m) y.r)⟩, true) := by unfold twoT; rw [if_neg hz, if_neg (by decide), if_neg (by decide), if_neg (by decide), if_neg hxy, if_neg (by decide)]
     rw [e]
     simp only [endK, show ((((37 : UInt8).toNat : Nat) : Int) == 43) = false from rfl, show ((((37 : UInt8).toNat : Nat) : Int) == 45) = false from rfl, show ((((37 : UInt8).toNat : Nat) : Int) == 42) = false from rfl, show ((((37 : UInt8).toNat : Nat) : Int) == 47) = false from rfl, ↓RLc, ↓RM, ↓RT6, ↓RT, ↓RG, RV, ↓rEqCl, h2.x, h2.y, n2, c2, Lm, Lc, Iv.Lw, eqA, eqB, eqC, Nat.reduceAdd, Nat.reduceEqDiff, ↓reduceIte, putL, List.all_cons, List.all_nil]
     refine cl_of (gcd_ok (by unfold Sml; omega) (by unfold Sml; omega) _) ?_
     rintro e w3 ⟨rfl, ho3⟩
     have h3 := h2.next ho3
     have gp : 0 < gcdV (gcdV x.m y.m) y.r := gcd_pos (fun h' => by omega)
     simp only [endK, ↓RLc, ↓RM, ↓RT6, ↓RT, ↓RG, RV, h3.x]
     refine cl_of (left_ok gp (dvd_sml (by unfold Sml; omega) (by unfold Sml; omega)) _) ?_
     rintro e w4 ⟨rfl, rfl⟩
     simp only [endK, ↓RLc, ↓RM, ↓RT6, ↓RT, ↓RG, RV, h3.z, Lm, Lc, Iv.Lw, eqA, eqB, eqC, Nat.reduceAdd, Nat.reduceEqDiff, ↓reduceIte, putL, List.all_cons, List.all_nil]
     exact ⟨rfl, h3.fin _ _⟩
end Go.Inv
namespace Go.Inv
open Go.Sh
def MtJ (w0 : World) (b : Nat) (x y : Cls) (_ : List Value) (w : World) : Prop := TwAt w0 w x y b ∧ gcdV x.m y.m ∣ x.r - y.r
def MtI (w0 : World) (b : Nat) (x y : Cls) (k0 : Nat) (vs : List Value) (w : World) : Prop := TwAt w0 w x y b ∧ ∃ k : Nat, k ≤ k0 ∧ vs = [vi (x.r + k * x.m)] ∧ findN y x.m 65536 x.r = findN y x.m (65536 - k) (x.r + k * x.m)
def MtM (x : Cls) (k0 : Nat) (vs : List Value) (_ : World) : Nat := match vs with
 | [.int _ n] => (x.r + k0 * x.m - n).toNat
 | _ => 0
theorem TwAt.dr {w0 w : World} {x y : Cls} {b : Nat} (h : TwAt w0 w x y b) : TwAt w0 (dr w) x y b := h.next (Old.refl w).dr
theorem kmul {a b c : Int} (h : a ≤ b) (h0 : 0 ≤ a) (hc : 0 ≤ c) (hb : b ≤ 65536) (hc2 : c ≤ 65536) : 0 ≤ a * c ∧ a * c ≤ b * c ∧ b * c ≤ 4294967296 := by
 have := mul_bd (a := b) (b := c) (by omega) (by omega)
 exact ⟨Int.mul_nonneg h0 hc, Int.mul_le_mul_of_nonneg_right h hc, by omega⟩
theorem cmeet_ok (sv : Value) {x y : Cls} (hx : InvC x) (hy : InvC y) (w : World) :
 Calls pr n_dc_Meet #[sv, clV x, clV y] w (Ret (tup2 (clV (meetC x y).1) (meetC x y).2) w) := by
 refine sh_dc_Meet_ok _ _ _ _ _ ?_
 unfold sh_dc_Meet
 obtain ⟨x1, x2, x3, x4⟩ := hx.sml
 obtain ⟨y1, y2, y3, y4⟩ := hy.sml
 have h0 := tw_start w sv x y
 by_cases hx0 : x.m = 0
 ·have d1 : (x.m == 0) = true := by simpa using hx0
  simp only [d1, ↓RLc, ↓RM, ↓RT6, ↓RT, ↓RG, RV, Lm, Lc, eqA, eqB, eqC, Nat.reduceAdd, Nat.reduceEqDiff, ↓reduceIte]
  generalize ((((w.alloc (.cells sv.cells 104)).alloc (.cells #[vi x.m, vi x.r] 100)).alloc (.cells #[vi y.m, vi y.r] 100)).alloc (.cells #[vi 0, vi 0] tyCls)) = w1 at *
  refine cl_of (in_ok hy (by omega) _) ?_
  rintro e w2 ⟨rfl, ho2⟩
  have h2 := h0.dr.next ho2
  have e : meetC x y = (x, inC y x.r) := by unfold meetC; rw [if_pos hx0]
  rw [e]
  simp only [endK, ↓RLc, ↓RM, ↓RT6, ↓RT, ↓RG, RV, h2.x, h2.z, Lm, Lc, Iv.Lw, eqA, eqB, eqC, Nat.reduceAdd, Nat.reduceEqDiff, ↓reduceIte, putL, List.all_cons, List.all_nil]
  exact ⟨rfl, h2.fin _ _⟩
 by_cases hy0 : y.m = 0
 ·have d1 : (x.m == 0) = false := by simpa using hx0
  have d2 : (y.m == 0) = true := by simpa using hy0
  simp only [d1, d2, ↓RLc, ↓RM, ↓RT6, ↓RT, ↓RG, RV, Lm, Lc, eqA, eqB, eqC, Nat.reduceAdd, Nat.reduceEqDiff, ↓reduceIte]
  generalize ((((w.alloc (.cells sv.cells 104)).alloc (.cells #[vi x.m, vi x.r] 100)).alloc (.cells #[vi y.m, vi y.r] 100)).alloc (.cells #[vi 0, vi 0] tyCls)) = w1 at *
  refine cl_of (in_ok hx (by omega) _) ?_
  rintro e w2 ⟨rfl, ho2⟩
  have h2 := h0.dr.next ho2
  have e : meetC x y = (y, inC x y.r) := by unfold meetC; rw [if_neg hx0, if_pos hy0]
  rw [e]
  simp only [endK, ↓RLc, ↓RM, ↓RT6, ↓RT, ↓RG, RV, h2.y, h2.z, Lm, Lc, Iv.Lw, eqA, eqB, eqC, Nat.reduceAdd, Nat.reduceEqDiff, ↓reduceIte, putL, List.all_cons, List.all_nil]
  exact ⟨rfl, h2.fin _ _⟩
 have d1 : (x.m == 0) = false := by simpa using hx0
 have d2 : (y.m == 0) = false := by simpa using hy0
 simp only [d1, d2, ↓RLc, ↓RM, ↓RT6, ↓RT, ↓RG, RV, Lm, Lc, eqA, eqB, eqC, Nat.reduceAdd, Nat.reduceEqDiff, ↓reduceIte]
 generalize ((((w.alloc (.cells sv.cells 104)).alloc (.cells #[vi x.m, vi x.r] 100)).alloc (.cells #[vi y.m, vi y.r] 100)).alloc (.cells #[vi 0, vi 0] tyCls)) = w1 at *
 have nb := gcd_bound hx hy (fun h => hx0 h.1)
 refine cl_of (gcd_ok (by unfold Sml; omega) (by unfold Sml; omega) _) ?_
 rintro e w2 ⟨rfl, ho2⟩
 have h2 := h0.next ho2
 simp only [endK]
 refine ⟨MtJ w w.heap.size (if x.m < y.m then y else x) (if x.m < y.m then x else y), ?_, ?_⟩
 ·rintro e1 w3 ⟨h3, hdv⟩
  have e : ¬ (x.r - y.r).tmod (gcdV x.m y.m) ≠ 0 → meetC x y = meet2 (gcdV x.m y.m) (if x.m < y.m then y else x) (if x.m < y.m then x else y) := fun h => by
   unfold meetC; rw [if_neg hx0, if_neg hy0, if_neg h]; split <;> rfl
  have gX : gcdV (if x.m < y.m then y else x).m (if x.m < y.m then x else y).m = gcdV x.m y.m := by
   split
   ·exact gcdV_comm _ _
   ·rfl
  have hX : InvC (if x.m < y.m then y else x) := by split <;> assumption
  have hY : InvC (if x.m < y.m then x else y) := by split <;> assumption
  have X0 : (if x.m < y.m then y else x).m ≠ 0 := by split <;> assumption
  have Y0 : (if x.m < y.m then x else y).m ≠ 0 := by split <;> assumption
  have hdd : ¬ (x.r - y.r).tmod (gcdV x.m y.m) ≠ 0 := fun h => h (by
   have : gcdV x.m y.m ∣ x.r - y.r := by
    rw [gX] at hdv
    split at hdv
    ·have := Int.dvd_neg.2 hdv; rwa [Int.neg_sub] at this
    ·exact hdv
   exact Int.tmod_eq_zero_of_dvd this)
  rw [e hdd]
  generalize (if x.m < y.m then y else x) = X at *
  generalize (if x.m < y.m then x else y) = Y at *
  rw [← gX] at nb ⊢
  clear e hdd gX hx hy x1 x2 x3 x4 y1 y2 y3 y4 h0 h2 d1 d2 hx0 hy0 ho2
  obtain ⟨x1, x2, x3, x4⟩ := hX.sml
  obtain ⟨y1, y2, y3, y4⟩ := hY.sml
  obtain ⟨k0, hk, hk0⟩ := crt (xm := X.m) (ym := Y.m) (xr := X.r) (yr := Y.r) (by omega) (by omega) hdv
  have hin : inC Y (X.r + k0 * X.m) = true := (inC_mem hY _).2 hk0
  have b0 := kmul (a := (k0 : Int)) (b := 65536) (c := X.m) (by omega) (by omega) x1 (by omega) x2
  have hq : 0 ≤ X.m.tdiv (gcdV X.m Y.m) ∧ X.m.tdiv (gcdV X.m Y.m) ≤ 65536 := by
   rw [Int.tdiv_eq_ediv_of_nonneg x1]
   exact ⟨Int.ediv_nonneg x1 (by omega), Int.le_trans (Int.ediv_le_self _ x1) x2⟩
  have hs := (step_pos (xm := X.m) (ym := Y.m) (by omega) (by omega)).1
  have hsb := mul_bd (a := X.m.tdiv (gcdV X.m Y.m)) (b := Y.m) (by omega) (by omega)
  have v1 : IntKind.i64.wrap (X.m.tdiv (gcdV X.m Y.m)) = X.m.tdiv (gcdV X.m Y.m) := wr (by omega) (by omega)
  have v2 : IntKind.i64.wrap (X.m.tdiv (gcdV X.m Y.m) * Y.m) = X.m.tdiv (gcdV X.m Y.m) * Y.m := wr (by omega) (by omega)
  have h4 := h3.dr
  simp only [↓RLc, ↓RM, ↓RT6, ↓RT, ↓RG, RV, h3.x, h3.y, quoI (show gcdV X.m Y.m ≠ 0 by omega), v1, v2]
  refine ⟨MtI w w.heap.size X Y k0, MtM X k0, ⟨h4, 0, Nat.zero_le _, by simp, by simp⟩, ?_⟩
  rintro e2 w5 ⟨h5, k, hkk, he, hf⟩
  have e10 : e2 10 = vi (X.r + k * X.m) := by simpa using (List.cons.inj he).1
  have b1 := kmul (a := (k : Int)) (b := k0) (c := X.m) (by omega) (by omega) x1 (by omega) x2
  rw [e10]
  simp only [↓RLc, ↓RM, ↓RT6, ↓RT, ↓RG, RV, h5.y]
  refine cl_of (in_ok hY (by omega) _) ?_
  rintro e w6 ⟨rfl, ho6⟩
  have h6 := h5.next ho6
  have e65 : 65536 - k = (65535 - k) + 1 := by omega
  simp only [endK]
  cases hc : inC Y (X.r + k * X.m) with
  | false =>
    have hlt : k < k0 := by
     rcases Nat.lt_or_ge k k0 with h | h
     ·exact h
     ·have : k = k0 := by omega
      rw [this, hin] at hc; cases hc
    have e1 : X.r + ((k + 1 : Nat) : Int) * X.m = X.r + k * X.m + X.m := by rw [Int.natCast_add, Int.add_mul]; omega
    have b2 := kmul (a := ((k + 1 : Nat) : Int)) (b := k0) (c := X.m) (by omega) (by omega) x1 (by omega) x2
    have v3 : IntKind.i64.wrap (X.r + k * X.m + X.m) = X.r + k * X.m + X.m := wr (by omega) (by omega)
    simp only [hc, Bool.not_false, ↓RLc, ↓RM, ↓RT6, ↓RT, ↓RG, RV, h6.x, v3]
    refine ⟨⟨h6, k + 1, hlt, by rw [e1], ?_⟩, ?_⟩
    ·rw [hf, e65, findN, hc, e1]
     simp only [Bool.false_eq_true, if_false]
     rw [show 65536 - (k + 1) = 65535 - k by omega]
    ·simp only [MtM, e10]
     omega
  | true =>
    have hfn : findN Y X.m 65536 X.r = X.r + k * X.m := by rw [hf, e65, findN, hc]; rfl
    have v3 : IntKind.i64.wrap (X.r + k * X.m - -32768) = X.r + k * X.m + 32768 := by rw [wr (by omega) (by omega)]; omega
    simp only [hc, Bool.not_true, ↓RLc, ↓RM, ↓RT6, ↓RT, ↓RG, RV, v3]
    refine cl_of (left_ok hs (by omega) _) ?_
    rintro e w7 ⟨rfl, rfl⟩
    have lb := left_bd (n := X.r + k * X.m + 32768) hs
    have v4 : IntKind.i64.wrap (-32768 + leftV (X.r + k * X.m + 32768) (X.m.tdiv (gcdV X.m Y.m) * Y.m)) = -32768 + leftV (X.r + k * X.m + 32768) (X.m.tdiv (gcdV X.m Y.m) * Y.m) := wr (by omega) (by omega)
    have v5 : IntKind.i64.wrap (-32768 + leftV (X.r + k * X.m + 32768) (X.m.tdiv (gcdV X.m Y.m) * Y.m) + X.m.tdiv (gcdV X.m Y.m) * Y.m) = -32768 + leftV (X.r + k * X.m + 32768) (X.m.tdiv (gcdV X.m Y.m) * Y.m) + X.m.tdiv (gcdV X.m Y.m) * Y.m := wr (by omega) (by omega)
    have em : meet2 (gcdV X.m Y.m) X Y = if -32768 + leftV (X.r + k * X.m + 32768) (X.m.tdiv (gcdV X.m Y.m) * Y.m) > 32767 then (X, false) else if -32768 + leftV (X.r + k * X.m + 32768) (X.m.tdiv (gcdV X.m Y.m) * Y.m) + X.m.tdiv (gcdV X.m Y.m) * Y.m > 32767 then (⟨0, -32768 + leftV (X.r + k * X.m + 32768) (X.m.tdiv (gcdV X.m Y.m) * Y.m)⟩, true) else (⟨X.m.tdiv (gcdV X.m Y.m) * Y.m, leftV (-32768 + leftV (X.r + k * X.m + 32768) (X.m.tdiv (gcdV X.m Y.m) * Y.m)) (X.m.tdiv (gcdV X.m Y.m) * Y.m)⟩, true) := by
     unfold meet2; rw [hfn]
    rw [em]
    simp only [endK, ↓RLc, ↓RM, ↓RT6, ↓RT, ↓RG, RV, v4, v5]
    generalize -32768 + leftV (X.r + k * X.m + 32768) (X.m.tdiv (gcdV X.m Y.m) * Y.m) = first at *
    generalize X.m.tdiv (gcdV X.m Y.m) * Y.m = step at *
    refine Iv.condJ (p := first > 32767) rfl (fun h => ?_) (fun h => ?_)
    ·rw [if_pos h]
     simp only [↓RLc, ↓RM, ↓RT6, ↓RT, ↓RG, RV, h6.x, h6.z, Lm, Lc, Iv.Lw, eqA, eqB, eqC, Nat.reduceAdd, Nat.reduceEqDiff, ↓reduceIte, putL, List.all_cons, List.all_nil]
     exact ⟨rfl, h6.fin _ _⟩
    ·rw [if_neg h]
     refine Iv.condJ (p := first + step > 32767) rfl (fun h' => ?_) (fun h' => ?_)
     ·rw [if_pos h']
      simp only [↓RLc, ↓RM, ↓RT6, ↓RT, ↓RG, RV, h6.x, h6.z, Lm, Lc, Iv.Lw, eqA, eqB, eqC, Nat.reduceAdd, Nat.reduceEqDiff, ↓reduceIte, putL, List.all_cons, List.all_nil]
      exact ⟨rfl, h6.fin _ _⟩
     ·rw [if_neg h']
      refine cl_of (left_ok hs (by omega) _) ?_
      rintro e w8 ⟨rfl, rfl⟩
      simp only [endK, ↓RLc, ↓RM, ↓RT6, ↓RT, ↓RG, RV, h6.x, h6.z, Lm, Lc, Iv.Lw, eqA, eqB, eqC, Nat.reduceAdd, Nat.reduceEqDiff, ↓reduceIte, putL, List.all_cons, List.all_nil]
      exact ⟨rfl, h6.fin _ _⟩
 ·have hw : IntKind.i64.wrap (x.r - y.r) = x.r - y.r := wr (by omega) (by omega)
  simp only [↓RLc, ↓RM, ↓RT6, ↓RT, ↓RG, RV, h2.x, h2.y, hw, remI (show gcdV x.m y.m ≠ 0 by omega)]
  refine Iv.condJ (p := (x.r - y.r).tmod (gcdV x.m y.m) ≠ 0) (by by_cases hh : (x.r - y.r).tmod (gcdV x.m y.m) = 0 <;> simp [hh]) (fun h => ?_) (fun h => ?_)
  ·have e : meetC x y = (x, false) := by unfold meetC; rw [if_neg hx0, if_neg hy0, if_pos h]
   rw [e]
   simp only [endK, ↓RLc, ↓RM, ↓RT6, ↓RT, ↓RG, RV, h2.x, h2.z, Lm, Lc, Iv.Lw, eqA, eqB, eqC, Nat.reduceAdd, Nat.reduceEqDiff, ↓reduceIte, putL, List.all_cons, List.all_nil]
   exact ⟨rfl, h2.fin _ _⟩
  ·have hdv : gcdV x.m y.m ∣ x.r - y.r := Int.dvd_of_tmod_eq_zero (Decidable.not_not.1 h)
   refine Iv.condJ (p := x.m < y.m) rfl (fun h => ?_) (fun h => ?_)
   ·simp only [endK, ↓RLc, ↓RM, ↓RT6, ↓RT, ↓RG, RV, h2.x, h2.y, Lm, Lc, Iv.Lw, eqA, eqB, eqC, Nat.reduceAdd, Nat.reduceEqDiff, ↓reduceIte, putL, List.all_cons, List.all_nil]
    rw [if_pos h, if_pos h]
    have hl := h2.lo
    refine ⟨⟨(((h2.old.put (by omega)).put (by omega)).put (by omega)).put (by omega), hl, ?_, ?_, ?_⟩, ?_⟩
    ·simp only [ClAt, ↓RLc, ↓RM, ↓RT6, ↓RT, ↓RG, RV, h2.x, h2.y, Lm, Lc, Iv.Lw, eqA, eqB, eqC, Nat.reduceAdd, Nat.reduceEqDiff, ↓reduceIte, putL, List.all_cons, List.all_nil]
    ·simp only [ClAt, ↓RLc, ↓RM, ↓RT6, ↓RT, ↓RG, RV, h2.x, h2.y, Lm, Lc, Iv.Lw, eqA, eqB, eqC, Nat.reduceAdd, Nat.reduceEqDiff, ↓reduceIte, putL, List.all_cons, List.all_nil]
    ·simp only [ClAt, ↓RLc, ↓RM, ↓RT6, ↓RT, ↓RG, RV, h2.x, h2.y, h2.z, Lm, Lc, Iv.Lw, eqA, eqB, eqC, Nat.reduceAdd, Nat.reduceEqDiff, ↓reduceIte, putL, List.all_cons, List.all_nil]
    ·rw [gcdV_comm]
     have := Int.dvd_neg.2 hdv; rwa [Int.neg_sub] at this
   ·rw [if_neg h, if_neg h]
    exact ⟨h2, hdv⟩
end Go.Inv
namespace Go.Inv
open Go.Sh
structure BcAt (w0 w : World) (l r : Cls) (b : Nat) : Prop where
 old : Old w0 w
 lo : w0.heap.size ≤ b
 l : ClAt w (b + 1) l
 r : ClAt w (b + 2) r
 p : ClAt w (b + 3) ⟨0, 0⟩
 q : ClAt w (b + 4) ⟨0, 0⟩
 d : ∃ cs, w.heap[b]? = some (.cells cs 104 (0, 0))
theorem BcAt.next {w0 w w' : World} {l r : Cls} {b : Nat} (h : BcAt w0 w l r b) (ho : Old w w') : BcAt w0 w' l r b :=
 ⟨h.old.trans ho, h.lo, ho.heap h.l, ho.heap h.r, ho.heap h.p, ho.heap h.q, by obtain ⟨cs, e⟩ := h.d; exact ⟨cs, ho.heap e⟩⟩
theorem blkRow0 (c : Array Value) (t : TypeId) (f : Nat × Nat) : blkRow (some (.cells c t f)) 0 0 = some (.agg #[]) := by unfold blkRow; simp
theorem bc_fin {w0 w : World} {b : Nat} (h : Old w0 w) (hl : w0.heap.size ≤ b) (t u v z : Value) : Old w0 (put (put (put (put w (b + 3) 0 t) (b + 3) 1 u) (b + 4) 0 v) (b + 4) 1 z) :=
 (((h.put (by omega)).put (by omega)).put (by omega)).put (by omega)
theorem cbounds_ok (sv : Value) {l r : Cls} {k : Nat} (hk : k < 6) (hl : InvC l) (hr : InvC r) (w : World) :
 Calls pr n_dc_Bounds #[sv, clV l, vi k, clV r] w (Ret (.tuple #[clV (boundsC l k r).1, clV (boundsC l k r).2.1, .bool (boundsC l k r).2.2.1, .bool (boundsC l k r).2.2.2]) w) := by
 refine sh_dc_Bounds_ok _ _ _ _ _ _ ?_
 unfold sh_dc_Bounds
 have h0 : BcAt w (((((w.alloc (.cells sv.cells 104)).alloc (.cells #[vi l.m, vi l.r] 100)).alloc (.cells #[vi r.m, vi r.r] 100)).alloc (.cells #[vi 0, vi 0] tyCls)).alloc (.cells #[vi 0, vi 0] tyCls)) l r w.heap.size := by
  refine ⟨by simp (maxDischargeDepth := 60) only [OLD, size_alloc, size_put], Nat.le_refl _, ?_, ?_, ?_, ?_, ⟨sv.cells, ?_⟩⟩ <;>
   simp only [ClAt, RV, Lm, Lc, eqA, eqB, eqC, Nat.reduceAdd, Nat.reduceEqDiff, ↓reduceIte]
 have lz : (l.m == 0) = true ↔ l.m = 0 := by simp
 have rz : (r.m == 0) = true ↔ r.m = 0 := by simp
 have rest : ¬ (l.m = 0 ∧ r.m = 0 ∧ holds k l.r r.r = false) → boundsC l k r = if k ≠ 4 then (l, r, false, true) else (r, l, true, (meetC l r).2) := fun h => by unfold boundsC; rw [if_neg h]
 rcases (by cases hh : (l.m == 0) with
  | false => exact .inl ⟨rfl, rfl⟩
  | true => cases hg : (r.m == 0) with
    | false => exact .inr (.inl ⟨rfl, rfl⟩)
    | true => exact .inr (.inr ⟨rfl, rfl⟩) : ((l.m == 0) = false ∧ (l.m == 0) = false) ∨ ((l.m == 0) = true ∧ (r.m == 0) = false) ∨ ((l.m == 0) = true ∧ (r.m == 0) = true)) with ⟨d1, d2⟩ | ⟨d1, d2⟩ | ⟨d1, d2⟩
 rotate_left 2
 ·cases hh : holds k l.r r.r
  ·have e : boundsC l k r = (l, r, false, false) := by unfold boundsC; rw [if_pos ⟨lz.1 d1, rz.1 d2, hh⟩]
   rw [e]
   simp only [d1, d2, cond_true, ↓RLc, ↓RM, ↓RT6, ↓RT, ↓RG, RV, Lm, Lc, eqA, eqB, eqC, Nat.reduceAdd, Nat.reduceEqDiff, ↓reduceIte, putL, List.all_cons, List.all_nil]
   generalize (((((w.alloc (.cells sv.cells 104)).alloc (.cells #[vi l.m, vi l.r] 100)).alloc (.cells #[vi r.m, vi r.r] 100)).alloc (.cells #[vi 0, vi 0] tyCls)).alloc (.cells #[vi 0, vi 0] tyCls)) = w0 at *
   refine cl_of (holds_ok hk _ _ _) ?_
   rintro e w2 ⟨rfl, rfl⟩
   simp only [endK, hh, Bool.not_false, cond_true, ↓RLc, ↓RM, ↓RT6, ↓RT, ↓RG, RV, h0.l, h0.r, h0.p, h0.q, Lm, Lc, Iv.Lw, eqA, eqB, eqC, Nat.reduceAdd, Nat.reduceEqDiff, ↓reduceIte, putL, List.all_cons, List.all_nil]
   exact ⟨rfl, bc_fin h0.old.dr h0.lo _ _ _ _⟩
  ·rw [rest (fun h => by rw [hh] at h; exact absurd h.2.2 (by decide))]
   simp only [d1, d2, cond_true, ↓RLc, ↓RM, ↓RT6, ↓RT, ↓RG, RV, Lm, Lc, eqA, eqB, eqC, Nat.reduceAdd, Nat.reduceEqDiff, ↓reduceIte, putL, List.all_cons, List.all_nil]
   generalize (((((w.alloc (.cells sv.cells 104)).alloc (.cells #[vi l.m, vi l.r] 100)).alloc (.cells #[vi r.m, vi r.r] 100)).alloc (.cells #[vi 0, vi 0] tyCls)).alloc (.cells #[vi 0, vi 0] tyCls)) = w0 at *
   refine cl_of (holds_ok hk _ _ _) ?_
   rintro e w2 ⟨rfl, rfl⟩
   simp only [endK, hh, Bool.not_true, cond_true, cond_false, ↓RLc, ↓RM, ↓RT6, ↓RT, ↓RG, RV]
   refine Iv.condJ (p := k ≠ 4) (by by_cases hh : k = 4 <;> simp [hh]; omega) (fun h4 => ?_) (fun h4 => ?_)
   ·rw [if_pos h4]
    simp only [↓RLc, ↓RM, ↓RT6, ↓RT, ↓RG, RV, h0.l, h0.r, h0.p, h0.q, Lm, Lc, Iv.Lw, eqA, eqB, eqC, Nat.reduceAdd, Nat.reduceEqDiff, ↓reduceIte, putL, List.all_cons, List.all_nil]
    exact ⟨rfl, bc_fin h0.old.dr h0.lo _ _ _ _⟩
   ·rw [if_neg h4]
    obtain ⟨cs, hcs⟩ := h0.d
    simp only [↓RLc, ↓RM, ↓RT6, ↓RT, ↓RG, RV, h0.l, h0.r, hcs, blkRow0]
    refine cl_of (cmeet_ok _ hl hr _) ?_
    rintro e w3 ⟨rfl, ho3⟩
    have h3 := h0.next ho3
    simp only [endK, ↓RLc, ↓RM, ↓RT6, ↓RT, ↓RG, RV, h3.l, h3.r, h3.p, h3.q, Lm, Lc, Iv.Lw, eqA, eqB, eqC, Nat.reduceAdd, Nat.reduceEqDiff, ↓reduceIte, putL, List.all_cons, List.all_nil]
    exact ⟨rfl, bc_fin h3.old.dr h3.lo _ _ _ _⟩
 all_goals
  rw [rest (fun h => by first | exact absurd (lz.2 h.1) (by rw [d2]; decide) | exact absurd (rz.2 h.2.1) (by rw [d2]; decide))]
  simp only [d1, d2, cond_true, cond_false, ↓RLc, ↓RM, ↓RT6, ↓RT, ↓RG, RV, Lm, Lc, eqA, eqB, eqC, Nat.reduceAdd, Nat.reduceEqDiff, ↓reduceIte, putL, List.all_cons, List.all_nil]
  generalize (((((w.alloc (.cells sv.cells 104)).alloc (.cells #[vi l.m, vi l.r] 100)).alloc (.cells #[vi r.m, vi r.r] 100)).alloc (.cells #[vi 0, vi 0] tyCls)).alloc (.cells #[vi 0, vi 0] tyCls)) = w0 at *
  refine Iv.condJ (p := k ≠ 4) (by by_cases hh : k = 4 <;> simp [hh]; omega) (fun h4 => ?_) (fun h4 => ?_)
  ·rw [if_pos h4]
   simp only [↓RLc, ↓RM, ↓RT6, ↓RT, ↓RG, RV, h0.l, h0.r, h0.p, h0.q, Lm, Lc, Iv.Lw, eqA, eqB, eqC, Nat.reduceAdd, Nat.reduceEqDiff, ↓reduceIte, putL, List.all_cons, List.all_nil]
   exact ⟨rfl, bc_fin h0.old.dr h0.lo _ _ _ _⟩
  ·rw [if_neg h4]
   obtain ⟨cs, hcs⟩ := h0.d
   simp only [↓RLc, ↓RM, ↓RT6, ↓RT, ↓RG, RV, h0.l, h0.r, hcs, blkRow0]
   refine cl_of (cmeet_ok _ hl hr _) ?_
   rintro e w3 ⟨rfl, ho3⟩
   have h3 := h0.next ho3
   simp only [endK, ↓RLc, ↓RM, ↓RT6, ↓RT, ↓RG, RV, h3.l, h3.r, h3.p, h3.q, Lm, Lc, Iv.Lw, eqA, eqB, eqC, Nat.reduceAdd, Nat.reduceEqDiff, ↓reduceIte, putL, List.all_cons, List.all_nil]
   exact ⟨rfl, bc_fin h3.old.dr h3.lo _ _ _ _⟩
end Go.Inv
namespace Go.Inv.Iv
open Go.Sh
section
variable {V : Type} {C : SvC V} [hC : C.Ok]
def BoJ (C : SvC V) (w : World) (z : St V) (_ : List Value) (w' : World) : Prop := Old w w' ∧ w'.heap[w.heap.size]? = some (.cells (C.sA z) C.N.st (0, 0)) ∧ w'.heap[w.heap.size + 2]? = some (.cells (C.sA C.n0) C.N.st (0, 0))
def BoI (C : SvC V) (w : World) (x y : St V) (vs : List Value) (w' : World) : Prop := ∃ i : Nat, vs = [vi i] ∧ i ≤ 8 ∧ Old w w' ∧ w'.heap[w.heap.size]? = some (.cells (C.sA ⟨true, mixV (fun a b => C.D.join a b) i x.vars y.vars⟩) C.N.st (0, 0)) ∧
 w'.heap[w.heap.size + 1]? = some (.cells (C.sA y) C.N.st (0, 0)) ∧ w'.heap[w.heap.size + 2]? = some (.cells (C.sA C.n0) C.N.st (0, 0))
def CtM (vs : List Value) (_ : World) : Nat := match vs with
 | [.int _ n] => 8 - n.toNat
 | _ => 0
theorem both_ok' {w : World} {a : AS V} {q : Nat} {x y : St V} (h : SvAt C w a q) (hx : InvS C.O x) (hy : InvS C.O y) :
 Calls pr C.N.f_both #[pt C.s 0, C.sv x, C.sv y] w (Ret (C.sv (bothA C.D x y)) w) := by
 refine hC.nr.both _ _ _ _ _ ?_
 unfold sv_both
 have lx := hx.len
 have ly := hy.len
 have l0 := (n0_len (C := C))
 obtain ⟨ls, lf, lb⟩ := h.ls
 simp only [↓RSs, ↓RT7, ↓RT7c, ↓RT, ↓RG, RV, Lm, Lc, Lw, eqA, eqB, eqC, Nat.reduceAdd, Nat.reduceEqDiff, ↓reduceIte]
 have ho : Old w (((w.alloc (.cells (C.sA x) C.N.st)).alloc (.cells (C.sA y) C.N.st)).alloc (.cells (C.sA C.n0) C.N.st)) := by simp (maxDischargeDepth := 60) only [OLD, size_alloc, size_put]
 refine ⟨BoJ C w (bothA C.D x y), ?_, ?_⟩
 ·rintro e1 w2 ⟨ho2, c4, c6⟩
  have lb := (show (bothA C.D x y).vars.length = 8 from (both_inv hx hy).len)
  simp only [↓RSs, ↓RT7, ↓RT7c, ↓RT, ↓RG, RV, Lm, Lc, Lw, c4, c6, stR lb, l0, eqA, eqB, eqC, Nat.reduceAdd, Nat.reduceEqDiff, ↓reduceIte]
  exact ⟨rfl, ho2.putL (by omega)⟩
 ·generalize hw1 : (((w.alloc (.cells (C.sA x) C.N.st)).alloc (.cells (C.sA y) C.N.st)).alloc (.cells (C.sA C.n0) C.N.st)) = w1 at *
  have b4 : w1.heap[w.heap.size]? = some (.cells (C.sA x) C.N.st (0, 0)) := by
   rw [← hw1]; simp only [RV, Lm, Lc, eqA, eqB, eqC, Nat.reduceAdd, Nat.reduceEqDiff, ↓reduceIte]
  have b5 : w1.heap[w.heap.size + 1]? = some (.cells (C.sA y) C.N.st (0, 0)) := by
   rw [← hw1]; simp only [RV, Lm, Lc, eqA, eqB, eqC, Nat.reduceAdd, Nat.reduceEqDiff, ↓reduceIte]
  have b6 : w1.heap[w.heap.size + 2]? = some (.cells (C.sA C.n0) C.N.st (0, 0)) := by
   rw [← hw1]; simp only [RV, Lm, Lc, eqA, eqB, eqC, Nat.reduceAdd, Nat.reduceEqDiff, ↓reduceIte]
  try simp only [↓RSs, ↓RT7, ↓RT7c, ↓RT, ↓RG, RV, Lc, Lw, b4, b5, b6]
  cases hxs : x.some with
  | false =>
    have e : bothA C.D x y = y := by unfold bothA; rw [hxs]; rfl
    simp only [↓RSs, ↓RT7, ↓RT7c, ↓RT, ↓RG, RV, Lc, Lw, b4, b5, b6, stR ly, l0, Bool.not_false, Bool.and_self, ↓reduceIte]
    rw [e]
    exact ⟨rfl, ho.putL (by omega)⟩
  | true =>
    simp only [↓RSs, ↓RT7, ↓RT7c, ↓RT, ↓RG, RV, Lc, Lw, b4, b5, b6, Bool.not_true]
    cases hys : y.some with
    | false =>
      have e : bothA C.D x y = x := by unfold bothA; rw [hxs, hys]; rfl
      simp only [↓RSs, ↓RT7, ↓RT7c, ↓RT, ↓RG, RV, Lc, Lw]
      rw [e]
      exact ⟨ho, b4, b6⟩
    | true =>
      have e : bothA C.D x y = ⟨true, List.zipWith (fun a b => C.D.join a b) x.vars y.vars⟩ := by unfold bothA; rw [hxs, hys]; rfl
      have ex : x = ⟨true, x.vars⟩ := by rw [← hxs]
      simp only [↓RSs, ↓RT7, ↓RT7c, ↓RT, ↓RG, RV, Lc, Lw]
      refine ⟨BoI C w x y, CtM, ⟨0, rfl, by omega, ho, by rw [mix_0, ← ex]; exact b4, b5, b6⟩, ?_⟩
      rintro e2 w2 ⟨i, he, hi, ho2, c4, c5, c6⟩
      have e14 : e2 14 = vi i := by simpa using he
      rw [e14]
      simp only [↓RSs, ↓RT7, ↓RT7c, ↓RT, ↓RG, RV, Lc, Lw]
      refine condJ (p := i < 8) (by simp only [decide_eq_decide]; omega) (fun h8 => ?_) (fun h8 => ?_)
      ·have hs2 := h.old ho2
       have lm : (⟨true, mixV (fun a b => C.D.join a b) i x.vars y.vars⟩ : St V).vars.length = 8 := mix_len lx ly hi
       simp only [↓RI, ↓RSs, ↓RT7, ↓RT7c, ↓RT, ↓RG, RV, Lc, Lw, hs2.sol, c4, c5, c6, (rIAv _ _ h8).oz, varR lm h8, varR ly h8, mix_get lx ly h8]
       refine cl_of (hC.cJoin ((hx.yes hxs).2 i h8) ((hy.yes hys).2 i h8)) ?_
       rintro e w3 ⟨rfl, ho3⟩
       have ho3 := ho3.ofDr
       have d4 := ho3.heap c4
       simp only [endK, ↓RI, ↓RSs, ↓RT7, ↓RT7c, ↓RT, ↓RG, RV, Lc, Lw, d4, (rIAv _ _ h8).oz, varR lm h8, List.all_cons, List.all_nil]
       have ho3' := ho2.trans ho3
       refine ⟨⟨i + 1, ?_, by omega, ho3'.putL (by omega), ?_, ?_, ?_⟩, ?_⟩
       ·rw [wrap64 (by omega) (by omega)]; rfl
       ·simp only [Lw, d4, ↓reduceIte, varR lm h8, setSt, mix_set lx ly h8]
       ·rw [heap_putL_ne (by omega)]; exact ho3.heap c5
       ·rw [heap_putL_ne (by omega)]; exact ho3.heap c6
       ·rw [wrap64 (by omega) (by omega)]; simp only [CtM]; omega
      ·have : i = 8 := by omega
       subst this
       refine ⟨ho2, ?_, c6⟩
       rw [e, ← mix_8 lx ly]; exact c4
theorem rIAf (b n c i : Nat) (h : i < n) : Pur pr (sIA C.N.tr (.slice (some ⟨b, 0, none⟩) n c) (vi i)) (pt b (i * 17)) := by
 have := pur_IAs (b := b) (off := 0) (n := n) (c := c) hC.elR (Int.natCast_nonneg i) (by omega : (i : Int) < n)
 simpa using this
theorem InvA.lens {P S : Nat} {a : AS V} (h : InvA (C.O) P S a) : ∀ x ∈ a.facts, x.vars.length = 8 := fun x hx => by
 obtain ⟨i, hi, rfl⟩ := List.getElem_of_mem hx
 have := (h.fi i).len
 rw [List.getD_eq_getElem?_getD, List.getElem?_eq_getElem hi] at this
 exact this
theorem SvAt.fact {w : World} {a : AS V} {q i : Nat} {y : St V} (h : SvAt C w a q) (hl : ∀ x ∈ a.facts, x.vars.length = 8) (hi : i < a.facts.length) (hy : y.vars.length = 8) :
 SvAt C (putL w C.fb (i * 17) (C.sA y).toList) { a with facts := a.facts.set i y } q :=
 ⟨by rw [heap_putL_ne hC.sf]; exact h.sol, by rw [get_putL, if_pos rfl, h.fc]; exact row_fc C.e hl hi hy, by rw [heap_putL_ne hC.fs.symm]; exact h.sc, int_putL hC.bf h.st⟩
theorem come_ok' {w : World} {a : AS V} {q p : Nat} {x : St V} (h : SvAt C w a q) (ha : InvA C.O C.P C.S a) (hx : InvS C.O x) (hp : p < C.P) :
 Calls pr C.N.f_come #[pt C.s 0, vi p, C.sv x] w (SvP C w q (.tuple #[]) (comeA C.D (rcd q) p x a)) := by
 refine hC.nr.come _ _ _ _ _ ?_
 unfold sv_come
 have lx := hx.len
 obtain ⟨ls, lf, lb⟩ := h.ls
 have hl := ha.lens
 have hp' : p < a.facts.length := by rw [ha.fl]; exact hp
 simp only [↓RSs, ↓RT7, ↓RT7c, ↓RT, ↓RG, RV, agg_cells]
 have ho : Old w (w.alloc (.cells (C.sA x) C.N.st)) := by simp (maxDischargeDepth := 60) only [OLD, size_alloc, size_put]
 have bx : (w.alloc (.cells (C.sA x) C.N.st)).heap[w.heap.size]? = some (.cells (C.sA x) C.N.st (0, 0)) := heap_alloc_self _
 generalize w.alloc (.cells (C.sA x) C.N.st) = w1 at *
 have h1 := h.old ho
 simp only [↓RSs, ↓RT7, ↓RT7c, ↓RT, ↓RG, RV, GE, Lc, Lw, bx, h1.sol]
 by_cases hq : q = 0
 ·subst hq
  have e : comeA C.D (rcd 0) p x a = { a with facts := a.facts.set p (bothA C.D (a.facts.getD p (noS C.D)) x) } := by unfold comeA; rfl
  rw [e]
  have d : ((((0 : Nat) : Int)) == 0) = true := rfl
  have l2 := (both_inv (ha.fi p) hx).len
  simp only [d, ↓RSs, ↓RT7, ↓RT7c, ↓RT, ↓RG, RV, GE, Lc, Lw, bx, h1.sol, (rIAf _ _ _ _ hp).oz, h1.fc, fc_get C.e (noS C.D) hl hp', stR lx]
  refine cl_of (both_ok' (C := C) h1.dr (ha.fi p) hx) ?_
  rintro e w2 ⟨rfl, ho2⟩
  have ho2 := ho2.ofDr
  have h2 := h1.old ho2
  simp only [endK, ↓RSs, ↓RT7, ↓RT7c, ↓RT, ↓RG, RV, GE, Lc, Lw, h2.sol, (rIAf _ _ _ _ hp).oz, h2.fc, stR l2, fc_ok C.e hl hp', Bool.and_self]
  refine ⟨rfl, ((ho.trans ho2).frS).putL (by omega), h2.fact hl hp' l2⟩
 ·have d : ((q : Int) == 0) = false := by simpa using hq
  have e : comeA C.D (rcd q) p x a = a := by unfold comeA; simp [hq]
  rw [e]
  simp only [d, ↓RSs, ↓RT7, ↓RT7c, ↓RT, ↓RG, RV]
  exact ⟨rfl, ho.frS, h1⟩
end
end Go.Inv.Iv
