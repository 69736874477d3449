/- A part of the proofs of the cards of this seat: whatever the input, each law returns true and leaves its arguments as they were. No condition. -/
import Derived.Test.YtknfapnlpkmcjabGreatDoorPH
import Derived.Test.YtknfapnlpkmcjabGreatDoorPI
import Derived.Laws.MakeOwn
import Derived.Test.YtknfapnlpkmcjabGreatDoorPA
import Derived.Test.YtknfapnlpkmcjabGreatDoorPF
import Derived.Test.YtknfapnlpkmcjabGreatDoorPB
import Derived.Test.YtknfapnlpkmcjabGreatDoorCards
import Derived.Test.YtknfapnlpkmcjabGreatDoorTie
import Derived.WalkKit
import Derived.ProofKit
import Derived.OpenShut
import Derived.Deep.DeepHandedRow
import Derived.Lib.LaidTab
import Derived.LaidHandle
import Derived.ChangeMaps5
import Derived.Stop.Joined
set_option linter.all false
set_option maxRecDepth 100000
set_option maxHeartbeats 32000000
namespace Go.Inv
open Go.Sh
theorem pl2 : plainT pr 2 = true := by kernel_rfl
theorem ag26 : aggT pr 26 = some 5 := by kernel_rfl
theorem pl39 : plainT pr 39 = true := by kernel_rfl
theorem ag41 : aggT pr 41 = some 2 := by kernel_rfl
theorem ag59 : aggT pr 59 = some 9 := by kernel_rfl
theorem ag70 : aggT pr 70 = some 2 := by kernel_rfl
theorem ag164 : aggT pr 164 = some 16 := by kernel_rfl
theorem ag175 : aggT pr 175 = some 16 := by kernel_rfl
theorem fo26_0 : fieldOff pr 26 0 = some 0 := by kernel_rfl
theorem fo26_4 : fieldOff pr 26 4 = some 4 := by kernel_rfl
theorem fo41_0 : fieldOff pr 41 0 = some 0 := by kernel_rfl
theorem fo41_1 : fieldOff pr 41 1 = some 1 := by kernel_rfl
theorem fo51_0 : fieldOff pr 51 0 = some 0 := by kernel_rfl
theorem fo51_1 : fieldOff pr 51 1 = some 1 := by kernel_rfl
theorem fo54_0 : fieldOff pr 54 0 = some 0 := by kernel_rfl
theorem fo54_1 : fieldOff pr 54 1 = some 1 := by kernel_rfl
theorem il39 : isSl pr 39 = true := by kernel_rfl
theorem il161 : isSl pr 161 = true := by kernel_rfl
theorem il172 : isSl pr 172 = true := by kernel_rfl
theorem ik2 : isIntK pr 2 .i64 = true := by kernel_rfl
theorem so104 : solid pr 104 = true := by kernel_rfl
theorem so111 : solid pr 111 = true := by kernel_rfl
def RT9 := (And.intro (And.intro (And.intro (And.intro (And.intro (And.intro (And.intro (rLoad pl2) (And.intro (raLoad pl2) (rkLoad pl2))) (And.intro (rStore pl2) (And.intro (rLoad pl3) (raLoad pl3)))) (And.intro (And.intro (rkLoad pl3) (And.intro (rStore pl3) (rLoad pl4))) (And.intro (raLoad pl4) (And.intro (rkLoad pl4) (rStore pl4))))) (And.intro (And.intro (And.intro (rLoad pl22) (And.intro (raLoad pl22) (rkLoad pl22))) (And.intro (rStore pl22) (And.intro (rLoad pl32) (raLoad pl32)))) (And.intro (And.intro (rkLoad pl32) (And.intro (rStore pl32) (rLoad pl39))) (And.intro (raLoad pl39) (And.intro (rkLoad pl39) (rStore pl39)))))) (And.intro (And.intro (And.intro (And.intro (rLoad pl55) (And.intro (raLoad pl55) (rkLoad pl55))) (And.intro (rStore pl55) (And.intro (rLoad pl83) (raLoad pl83)))) (And.intro (And.intro (rkLoad pl83) (And.intro (rStore pl83) (rLoad pl161))) (And.intro (raLoad pl161) (And.intro (rkLoad pl161) (rStore pl161))))) (And.intro (And.intro (And.intro (rLoad pl172) (And.intro (raLoad pl172) (rkLoad pl172))) (And.intro (rStore pl172) (And.intro (rLoadA ag26) (raLoadA ag26)))) (And.intro (And.intro (rkLoadA ag26) (And.intro (rStoreA ag26) (rLoadA ag34))) (And.intro (And.intro (raLoadA ag34) (rkLoadA ag34)) (And.intro (rStoreA ag34) (rLoadA ag41))))))) (And.intro (And.intro (And.intro (And.intro (And.intro (raLoadA ag41) (And.intro (rkLoadA ag41) (rStoreA ag41))) (And.intro (rLoadA ag51) (And.intro (raLoadA ag51) (rkLoadA ag51)))) (And.intro (And.intro (rStoreA ag51) (And.intro (rLoadA ag59) (raLoadA ag59))) (And.intro (rkLoadA ag59) (And.intro (rStoreA ag59) (rLoadA ag70))))) (And.intro (And.intro (And.intro (raLoadA ag70) (And.intro (rkLoadA ag70) (rStoreA ag70))) (And.intro (rLoadA ag100) (And.intro (raLoadA ag100) (rkLoadA ag100)))) (And.intro (And.intro (rStoreA ag100) (And.intro (rLoadA ag107) (raLoadA ag107))) (And.intro (And.intro (rkLoadA ag107) (rStoreA ag107)) (And.intro (rLoadA ag164) (raLoadA ag164)))))) (And.intro (And.intro (And.intro (And.intro (rkLoadA ag164) (And.intro (rStoreA ag164) (rLoadA ag166))) (And.intro (raLoadA ag166) (And.intro (rkLoadA ag166) (rStoreA ag166)))) (And.intro (And.intro (rLoadA ag175) (And.intro (raLoadA ag175) (rkLoadA ag175))) (And.intro (rStoreA ag175) (And.intro (rLoadA ag177) (raLoadA ag177))))) (And.intro (And.intro (And.intro (rkLoadA ag177) (And.intro (rStoreA ag177) (rFA fo26_0))) (And.intro (rzFA fo26_0) (And.intro (rFA fo26_1) (rzFA fo26_1)))) (And.intro (And.intro (rFA fo26_2) (And.intro (rzFA fo26_2) (rFA fo26_3))) (And.intro (And.intro (rzFA fo26_3) (rFA fo26_4)) (And.intro (rzFA fo26_4) (rFA fo34_0)))))))) (And.intro (And.intro (And.intro (And.intro (And.intro (And.intro (rzFA fo34_0) (And.intro (rFA fo34_1) (rzFA fo34_1))) (And.intro (rFA fo41_0) (And.intro (rzFA fo41_0) (rFA fo41_1)))) (And.intro (And.intro (rzFA fo41_1) (And.intro (rFA fo51_0) (rzFA fo51_0))) (And.intro (rFA fo51_1) (And.intro (rzFA fo51_1) (rFA fo54_0))))) (And.intro (And.intro (And.intro (rzFA fo54_0) (And.intro (rFA fo54_1) (rzFA fo54_1))) (And.intro (rFA fo59_0) (And.intro (rzFA fo59_0) (rFA fo59_1)))) (And.intro (And.intro (rzFA fo59_1) (And.intro (rFA fo85_0) (rzFA fo85_0))) (And.intro (rFA fo85_1) (And.intro (rzFA fo85_1) (rFA fo85_2)))))) (And.intro (And.intro (And.intro (And.intro (rzFA fo85_2) (And.intro (rFA fo85_3) (rzFA fo85_3))) (And.intro (rFA fo163_2) (And.intro (rzFA fo163_2) (rFA fo163_3)))) (And.intro (And.intro (rzFA fo163_3) (And.intro (rFA fo166_0) (rzFA fo166_0))) (And.intro (rFA fo166_1) (And.intro (rzFA fo166_1) (rFA fo174_2))))) (And.intro (And.intro (And.intro (rzFA fo174_2) (And.intro (rFA fo174_3) (rzFA fo174_3))) (And.intro (rFA fo177_0) (And.intro (rzFA fo177_0) (rFA fo177_1)))) (And.intro (And.intro (rzFA fo177_1) (And.intro (rIdxS is9) (rzIdxS is9))) (And.intro (And.intro (rLenS is9) (rzLenS is9)) (And.intro (rCut is9) (rzCut is9))))))) (And.intro (And.intro (And.intro (And.intro (And.intro (rCutL is9) (And.intro (rzCutL is9) (rLenL il22))) (And.intro (rzLenL il22) (And.intro (rLenL il32) (rzLenL il32)))) (And.intro (And.intro (rLenL il39) (And.intro (rzLenL il39) (rLenL il161))) (And.intro (rzLenL il161) (And.intro (rLenL il172) (rzLenL il172))))) (And.intro (And.intro (And.intro (rIface so44) (And.intro (rzIface so44) (rIface so104))) (And.intro (rzIface so104) (And.intro (rIface so111) (rzIface so111)))) (And.intro (And.intro (rConv ik2 ik2) (And.intro (rzConv ik2 ik2) (rConv ik2 ik3))) (And.intro (And.intro (rzConv ik2 ik3) (rConv ik2 ik55)) (And.intro (rzConv ik2 ik55) (rConv ik2 ik62)))))) (And.intro (And.intro (And.intro (And.intro (rzConv ik2 ik62) (And.intro (rConv ik3 ik2) (rzConv ik3 ik2))) (And.intro (rConv ik3 ik3) (And.intro (rzConv ik3 ik3) (rConv ik3 ik55)))) (And.intro (And.intro (rzConv ik3 ik55) (And.intro (rConv ik3 ik62) (rzConv ik3 ik62))) (And.intro (rConv ik55 ik2) (And.intro (rzConv ik55 ik2) (rConv ik55 ik3))))) (And.intro (And.intro (And.intro (rzConv ik55 ik3) (And.intro (rConv ik55 ik55) (rzConv ik55 ik55))) (And.intro (rConv ik55 ik62) (And.intro (rzConv ik55 ik62) (rConv ik62 ik2)))) (And.intro (And.intro (rzConv ik62 ik2) (And.intro (rConv ik62 ik3) (rzConv ik62 ik3))) (And.intro (And.intro (rConv ik62 ik55) (rzConv ik62 ik55)) (And.intro (rConv ik62 ik62) (rzConv ik62 ik62)))))))))
def ct_analysis_solve_Span_1 (E : PanicK) (e1 : Nat → Value) (t2 : Value) (t5 : Value) (e2 : Nat → Value) (a2 : Value) (I1 : List Value → World → Prop) (m1 : List Value → World → Nat) (w1 : World) (j1 : List Value → World → Prop) : World → Prop :=
 (fun w =>
 o pr E w (sBinC .lss 3 (e1 85) (Value.int IntKind.i64 8) 3) fun t1 w =>
 condP t1 (o pr E w (sIdx 175 t2 (e1 85)) fun t3 w =>
 o pr E w (sAlloc 107) fun t4 w =>
 o pr E w (sStore 107 t4 t3) fun _ w =>
 (fun w =>
 oz pr (sFA 41 t5 0) fun t6 =>
 oa pr w (sLoad 39 t6) fun t7 =>
 oa pr w (sLoad 107 t4) fun t8 =>
 oz pr (sIA 39 t7 (e2 70)) fun t9 =>
 oz pr (sFA 54 t9 1) fun t10 =>
 o pr E w (sInvoke a2 "Tell" [t8]) fun t11 w =>
 rk pr w (sLoad 39 t6) t7 ∧
 oz pr (sIA 52 t10 (e1 85)) fun t12 =>
 o pr E w (sStore 51 t12 t11) fun _ w =>
 o pr E w (sBinC .add 3 (e1 85) (Value.int IntKind.i64 1) 3) fun t13 w =>
 I1 [t13] w ∧ m1 [t13] w < m1 [e1 85] w1) (dr w))
  (j1 [] w))
def ct_analysis_solve_Span_2 (E : PanicK) (e1 : Nat → Value) (t1 : Value) (I1 : List Value → World → Prop) (m1 : List Value → World → Nat) (w1 : World) (t4 : Value) (t11 : Value) (a2 : Value) (t19 : Value) (K : Value → World → Prop) : World → Prop :=
 (fun w =>
 o pr E w (sBin .lss 3 (e1 70) t1 3) fun t2 w =>
 ∃ j1 : List Value → World → Prop, (∀ (e2 : Nat → Value) w, j1 [] w →
 o pr E w (sBinC .add 3 (e1 70) (Value.int IntKind.i64 1) 3) fun t3 w =>
 I1 [t3] w ∧ m1 [t3] w < m1 [e1 70] w1) ∧
 condP t2 (o pr E w (sIA 172 t4 (e1 70)) fun t5 w =>
 o pr E w (sLoad 177 t5) fun t6 w =>
 o pr E w (sAlloc 177) fun t7 w =>
 o pr E w (sStore 177 t7 t6) fun _ w =>
 o pr E w (sFA 177 t7 0) fun t8 w =>
 o pr E w (sLoad 4 t8) fun t9 w =>
 o pr E w (sUn .not 4 t9) fun t10 w =>
 condP t10 (j1 [] w)
  (o pr E w (sFA 41 t11 0) fun t12 w =>
 o pr E w (sLoad 39 t12) fun t13 w =>
 o pr E w (sIA 39 t13 (e1 70)) fun t14 w =>
 o pr E w (sFA 54 t14 0) fun t15 w =>
 o pr E w (sStore 4 t15 (Value.bool true)) fun _ w =>
 o pr E w (sFA 177 t7 1) fun t16 w =>
 o pr E w (sLoad 175 t16) fun t17 w =>
 ∃ (I2 : List Value → World → Prop) (m2 : List Value → World → Nat), I2 [(Value.int IntKind.i64 0)] w ∧
 ∀ (e3 : Nat → Value) w2, I2 [e3 85] w2 → (ct_analysis_solve_Span_1 E e3 t17 t11 e1 a2 I2 m2 w2 j1) w2))
  (o pr E w (sLoad 41 t11) fun t18 w =>
 o pr E w (sStore 41 t19 t18) fun _ w =>
 rs pr w t19 41 fun v1_0 =>
 K v1_0 w))
def ct_analysis_solve_Span_3 (E : PanicK) (e1 : Nat → Value) (a2 : Value) (t3 : Value) (I1 : List Value → World → Prop) (m1 : List Value → World → Nat) (w1 : World) (a0 : Value) (t11 : Value) (t32 : Value) (K : Value → World → Prop) : World → Prop :=
 (fun w =>
 o pr E w (sBinC .lss 3 (e1 31) (Value.int IntKind.i64 8) 3) fun t1 w =>
 condP t1 (o pr E w (sInvoke a2 "Only" [(Value.int IntKind.i64 0)]) fun t2 w =>
 o pr E w (sFA 177 t3 1) fun t4 w =>
 o pr E w (sIA 175 t4 (e1 31)) fun t5 w =>
 o pr E w (sStore 107 t5 t2) fun _ w =>
 o pr E w (sBinC .add 3 (e1 31) (Value.int IntKind.i64 1) 3) fun t6 w =>
 I1 [t6] w ∧ m1 [t6] w < m1 [e1 31] w1)
  ((fun w =>
 oz pr (sNil a0) fun t7 =>
 oz pr (sFA 85 t7 0) fun t8 =>
 oa pr w (sLoad 83 t8) fun t9 =>
 oa pr w (sLoad 177 t3) fun t10 =>
 (cl pr E w n_sv_list #[t11, t9, t10] fun t12 w =>
 o pr E w (sAlloc 177) fun t13 w =>
 o pr E w (sStore 177 t13 t12) fun _ w =>
 (fun w =>
 oz pr (sNil a0) fun t14 =>
 oz pr (sFA 85 t14 1) fun t15 =>
 oa pr w (sLoad 3 t15) fun t16 =>
 oz pr (sBinC .sub 3 t16 (Value.int IntKind.i64 1) 3) fun t17 =>
 oa pr w (sLoad 177 t13) fun t18 =>
 cl pr E w n_sv_come #[t11, t17, t18] fun _ w =>
 (fun w =>
 oz pr (sNil a0) fun t19 =>
 oz pr (sFA 85 t19 1) fun t20 =>
 oa pr w (sLoad 3 t20) fun t21 =>
 oz pr (sNil t11) fun t22 =>
 oz pr (sFA 174 t22 3) fun t23 =>
 oa pr w (sLoad 22 t23) fun t24 =>
 (o pr E w (sMake 39 t21 t21) fun t25 w =>
 rk pr w (sLoad 22 t23) t24 ∧
 oz pr (sBuild 41 [(0, t25), (1, t24)]) fun t26 =>
 o pr E w (sAlloc 41) fun t27 w =>
 rk pr w (sLoad 22 t23) t24 ∧
 o pr E w (sStore 41 t27 t26) fun _ w =>
 o pr E w (sNil t11) fun t28 w =>
 o pr E w (sFA 174 t28 2) fun t29 w =>
 o pr E w (sLoad 172 t29) fun t30 w =>
 o pr E w (sB .len [172] 3 [t30]) fun t31 w =>
 ∃ (I2 : List Value → World → Prop) (m2 : List Value → World → Nat), I2 [(Value.int IntKind.i64 0)] w ∧
 ∀ (e2 : Nat → Value) w2, I2 [e2 70] w2 → (ct_analysis_solve_Span_2 E e2 t31 I2 m2 w2 t30 t27 a2 t32 K) w2) ∧
 (o pr E w (sAlloc 41) fun t33 w =>
 rk pr w (sLoad 22 t23) t24 ∧
 rk pr w (sLoad 3 t20) t21 ∧
 o pr E w (sMake 39 t21 t21) fun t34 w =>
 rk pr w (sLoad 22 t23) t24 ∧
 oz pr (sBuild 41 [(0, t34), (1, t24)]) fun t35 =>
 o pr E w (sStore 41 t33 t35) fun _ w =>
 o pr E w (sNil t11) fun t36 w =>
 o pr E w (sFA 174 t36 2) fun t37 w =>
 o pr E w (sLoad 172 t37) fun t38 w =>
 o pr E w (sB .len [172] 3 [t38]) fun t39 w =>
 ∃ (I3 : List Value → World → Prop) (m3 : List Value → World → Nat), I3 [(Value.int IntKind.i64 0)] w ∧
 ∀ (e3 : Nat → Value) w3, I3 [e3 70] w3 → (ct_analysis_solve_Span_2 E e3 t39 I3 m3 w3 t38 t33 a2 t32 K) w3)) (dr w)) (dr w)) ∧
 (o pr E w (sAlloc 177) fun t40 w =>
 rk pr w (sLoad 177 t3) t10 ∧
 rk pr w (sLoad 83 t8) t9 ∧
 cl pr E w n_sv_list #[t11, t9, t10] fun t41 w =>
 o pr E w (sStore 177 t40 t41) fun _ w =>
 (fun w =>
 oz pr (sNil a0) fun t42 =>
 oz pr (sFA 85 t42 1) fun t43 =>
 oa pr w (sLoad 3 t43) fun t44 =>
 oz pr (sBinC .sub 3 t44 (Value.int IntKind.i64 1) 3) fun t45 =>
 oa pr w (sLoad 177 t40) fun t46 =>
 cl pr E w n_sv_come #[t11, t45, t46] fun _ w =>
 (fun w =>
 oz pr (sNil a0) fun t47 =>
 oz pr (sFA 85 t47 1) fun t48 =>
 oa pr w (sLoad 3 t48) fun t49 =>
 oz pr (sNil t11) fun t50 =>
 oz pr (sFA 174 t50 3) fun t51 =>
 oa pr w (sLoad 22 t51) fun t52 =>
 (o pr E w (sMake 39 t49 t49) fun t53 w =>
 rk pr w (sLoad 22 t51) t52 ∧
 oz pr (sBuild 41 [(0, t53), (1, t52)]) fun t54 =>
 o pr E w (sAlloc 41) fun t55 w =>
 rk pr w (sLoad 22 t51) t52 ∧
 o pr E w (sStore 41 t55 t54) fun _ w =>
 o pr E w (sNil t11) fun t56 w =>
 o pr E w (sFA 174 t56 2) fun t57 w =>
 o pr E w (sLoad 172 t57) fun t58 w =>
 o pr E w (sB .len [172] 3 [t58]) fun t59 w =>
 ∃ (I4 : List Value → World → Prop) (m4 : List Value → World → Nat), I4 [(Value.int IntKind.i64 0)] w ∧
 ∀ (e4 : Nat → Value) w4, I4 [e4 70] w4 → (ct_analysis_solve_Span_2 E e4 t59 I4 m4 w4 t58 t55 a2 t32 K) w4) ∧
 (o pr E w (sAlloc 41) fun t60 w =>
 rk pr w (sLoad 22 t51) t52 ∧
 rk pr w (sLoad 3 t48) t49 ∧
 o pr E w (sMake 39 t49 t49) fun t61 w =>
 rk pr w (sLoad 22 t51) t52 ∧
 oz pr (sBuild 41 [(0, t61), (1, t52)]) fun t62 =>
 o pr E w (sStore 41 t60 t62) fun _ w =>
 o pr E w (sNil t11) fun t63 w =>
 o pr E w (sFA 174 t63 2) fun t64 w =>
 o pr E w (sLoad 172 t64) fun t65 w =>
 o pr E w (sB .len [172] 3 [t65]) fun t66 w =>
 ∃ (I5 : List Value → World → Prop) (m5 : List Value → World → Nat), I5 [(Value.int IntKind.i64 0)] w ∧
 ∀ (e5 : Nat → Value) w5, I5 [e5 70] w5 → (ct_analysis_solve_Span_2 E e5 t66 I5 m5 w5 t65 t60 a2 t32 K) w5)) (dr w)) (dr w))) (dr w)))
def sh_analysis_solve_Span (K : Value → World → Prop) (E : PanicK) (a0 a1 a2 : Value) (w : World) : Prop :=
 o pr E w (sBox 26 a1) fun t4 w =>
 o pr E w (sAlloc 41) fun t6 w =>
 (fun w =>
 oa pr w (sLoad 26 t4) fun t17 =>
 oz pr (sNil a0) fun t19 =>
 oz pr (sFA 85 t19 1) fun t20 =>
 oa pr w (sLoad 3 t20) fun t21 =>
 oz pr (sNil a0) fun t24 =>
 oz pr (sFA 85 t24 2) fun t25 =>
 oa pr w (sLoad 3 t25) fun t26 =>
 (o pr E w (sMake 172 t21 t21) fun t22 w =>
 rk pr w (sLoad 3 t25) t26 ∧
 rk pr w (sLoad 26 t4) t17 ∧
 o pr E w (sMake 22 t26 t26) fun t27 w =>
 rk pr w (sLoad 26 t4) t17 ∧
 oz pr (sBuild 174 [(0, a2), (1, t17), (2, t22), (3, t27)]) fun t28 =>
 o pr E w (sBox 174 t28) fun t29 w =>
 o pr E w (sBuild 177 [(0, (Value.bool true))]) fun t30 w =>
 o pr E w (sAlloc 177) fun t8 w =>
 o pr E w (sStore 177 t8 t30) fun _ w =>
 ∃ (I1 : List Value → World → Prop) (m1 : List Value → World → Nat), I1 [(Value.int IntKind.i64 0)] w ∧
 ∀ (e1 : Nat → Value) w1, I1 [e1 31] w1 → (ct_analysis_solve_Span_3 E e1 a2 t8 I1 m1 w1 a0 t29 t6 K) w1) ∧
 (o pr E w (sMake 22 t26 t26) fun t27_1 w =>
 rk pr w (sLoad 3 t20) t21 ∧
 rk pr w (sLoad 26 t4) t17 ∧
 o pr E w (sMake 172 t21 t21) fun t22_1 w =>
 rk pr w (sLoad 26 t4) t17 ∧
 oz pr (sBuild 174 [(0, a2), (1, t17), (2, t22_1), (3, t27_1)]) fun t28_1 =>
 o pr E w (sBox 174 t28_1) fun t29_1 w =>
 o pr E w (sBuild 177 [(0, (Value.bool true))]) fun t30_1 w =>
 o pr E w (sAlloc 177) fun t8_1 w =>
 o pr E w (sStore 177 t8_1 t30_1) fun _ w =>
 ∃ (I14 : List Value → World → Prop) (m14 : List Value → World → Nat), I14 [(Value.int IntKind.i64 0)] w ∧
 ∀ (e14 : Nat → Value) w14, I14 [e14 31] w14 → (ct_analysis_solve_Span_3 E e14 a2 t8_1 I14 m14 w14 a0 t29_1 t6 K) w14)) (dr w)
def lv_analysis_solve_Span : Lives := [(1, [0, 2, 4, 6]), (2, [0, 2, 6, 7]), (3, [0, 2, 6, 7, 8]), (4, [0, 2, 6, 7, 8, 31]), (5, [0, 2, 6, 7, 8, 31, 32]), (6, [0, 2, 6, 7, 8, 9, 31]), (7, [0, 2, 6, 7, 8, 31]), (8, [0, 2, 6, 7, 8]), (9, [0, 2, 6, 7, 10]), (10, [0, 2, 6, 7]), (11, [2, 6, 7, 11]), (12, [2, 6, 11, 68, 69, 70]), (13, [2, 6, 11, 68, 69, 70, 71]), (14, [2, 6, 11, 12, 13, 68, 69, 70]), (15, [2, 6, 11, 12, 13, 68, 69, 70]), (16, [2, 6, 11, 12, 13, 68, 69, 70]), (17, [2, 6, 11, 12, 68, 69, 70, 84, 85]), (18, [2, 6, 11, 12, 68, 69, 70, 84, 85, 86]), (19, [2, 6, 11, 12, 14, 15, 68, 69, 70, 84, 85]), (20, [2, 6, 11, 12, 68, 69, 70, 84, 85]), (21, [2, 6, 11, 68, 69, 70]), (22, [6, 11])]
theorem sh_analysis_solve_Span_ok (a0 a1 a2 : Value) (w : World) (R : Ending → World → Prop)
 (h : sh_analysis_solve_Span (fun v w => R (.returned v) w) (fun c w => R (.panicked c) w) a0 a1 a2 w) : Calls pr n_analysis_solve_Span #[a0, a1, a2] w R :=
 calls_of_W (A := lv_analysis_solve_Span) enters mixed Go.Proofs.Tryz.func31 (by kernel_rfl) (by kernel_rfl) (by kernel_rfl)
  (Eq.mp (by kernel_rfl) h)
def sh_analysis_Analyze (K : Value → World → Prop) (E : PanicK) (a0 a1 : Value) (w : World) : Prop :=
 o pr E w (sBox 26 a1) fun t3 w =>
 o pr E w (sAlloc 41) fun t4 w =>
 o pr E w (sFA 26 t3 0) fun t8 w =>
 o pr E w (sLoad 3 t8) fun t9 w =>
 o pr E w (sBinC .eql 3 t9 (Value.int IntKind.i64 1) 3) fun t10 w =>
 condP t10 (o pr E w (sLoad 26 t3) fun t12 w =>
 o pr E w (sBuild 104 []) fun t13 w =>
 o pr E w (sIface 104 t13) fun t14 w =>
 cl pr E w n_analysis_solve_Class #[a0, t12, t14] fun t15 w =>
 o pr E w (sStore 41 t4 t15) fun _ w =>
 rs pr w t4 41 fun v0_0 =>
 K v0_0 w)
  (∃ j1 : List Value → World → Prop, (∀ (e1 : Nat → Value) w, j1 [e1 5] w →
 o pr E w (sLoad 26 t3) fun t35 w =>
 o pr E w (sBuild 111 [(0, (e1 5))]) fun t37 w =>
 o pr E w (sIface 111 t37) fun t38 w =>
 cl pr E w n_analysis_solve_Span #[a0, t35, t38] fun t39 w =>
 o pr E w (sStore 41 t4 t39) fun _ w =>
 rs pr w t4 41 fun v0_1 =>
 K v0_1 w) ∧
 o pr E w (sFA 26 t3 4) fun t16 w =>
 o pr E w (sLoad 4 t16) fun t17 w =>
 condP t17 (o pr E w (sNil a0) fun t19 w =>
 o pr E w (sFA 85 t19 3) fun t20 w =>
 o pr E w (sLoad 22 t20) fun t21 w =>
 o pr E w (sB .len [22] 3 [t21]) fun t22 w =>
 ∃ (I2 : List Value → World → Prop) (m2 : List Value → World → Nat), I2 [(Value.slice none 0 0), (Value.int IntKind.i64 0)] w ∧
 ∀ (e2 : Nat → Value) w2, I2 [e2 5, e2 23] w2 → (fun w =>
 o pr E w (sBin .lss 3 (e2 23) t22 3) fun t24 w =>
 condP t24 (o pr E w (sIA 22 t21 (e2 23)) fun t25 w =>
 o pr E w (sLoad 3 t25) fun t26 w =>
 o pr E w (sUn .neg 3 t26) fun t30 w =>
 o pr E w (sBuildSlice 22 2 [(0, t26), (1, t30)]) fun t31 w =>
 o pr E w (sB .append [22, 22] 22 [(e2 5), t31]) fun t32 w =>
 o pr E w (sBinC .add 3 (e2 23) (Value.int IntKind.i64 1) 3) fun t33 w =>
 I2 [t32, t33] w ∧ m2 [t32, t33] w < m2 [e2 5, e2 23] w2)
  (j1 [(e2 5)] w)) w2)
  (j1 [(Value.slice none 0 0)] w))
def lv_analysis_Analyze : Lives := [(1, [0, 3, 4]), (2, [0, 3, 4, 10]), (3, [0, 3, 4]), (4, [0, 3, 4, 5]), (5, [0, 3, 4, 5, 17]), (6, [0, 3, 4, 5, 21, 22, 23]), (7, [0, 3, 4, 5, 21, 22, 23, 24]), (8, [0, 3, 4, 5, 7, 21, 22, 23]), (9, [0, 3, 4, 5, 21, 22, 23]), (10, [0, 3, 4, 5])]
theorem sh_analysis_Analyze_ok (a0 a1 : Value) (w : World) (R : Ending → World → Prop)
 (h : sh_analysis_Analyze (fun v w => R (.returned v) w) (fun c w => R (.panicked c) w) a0 a1 w) : Calls pr n_analysis_Analyze #[a0, a1] w R :=
 calls_of_W (A := lv_analysis_Analyze) enters mixed Go.Proofs.Tryz.func20 (by kernel_rfl) (by kernel_rfl) (by kernel_rfl)
  (Eq.mp (by kernel_rfl) h)
def sh_inv_Analyze (K : Value → World → Prop) (E : PanicK) (a0 a1 : Value) (w : World) : Prop :=
 o pr E w (sBox 26 a1) fun t3 w =>
 o pr E w (sAlloc 41) fun t4 w =>
 cl pr E w n_text_Read #[a0] fun t12 w =>
 o pr E w (sExt t12 0) fun t13 w =>
 o pr E w (sExt t12 1) fun t14 w =>
 o pr E w (sBinC .neq 36 t14 (Value.nilIface) 36) fun t16 w =>
 condP t16 (o pr E w (sBuild 41 []) fun t17 w =>
 o pr E w (sStore 41 t4 t17) fun _ w =>
 rs pr w t4 41 fun v0_0 =>
 K (.tuple #[v0_0, t14]) w)
  (o pr E w (sFA 26 t3 0) fun t19 w =>
 o pr E w (sLoad 3 t19) fun t20 w =>
 o pr E w (sBuild 70 [(0, t20), (1, (Value.int IntKind.i64 1))]) fun t21 w =>
 o pr E w (sFA 26 t3 1) fun t22 w =>
 o pr E w (sLoad 3 t22) fun t23 w =>
 o pr E w (sBuild 70 [(0, t23), (1, (Value.int IntKind.i64 4))]) fun t24 w =>
 o pr E w (sFA 26 t3 2) fun t25 w =>
 o pr E w (sLoad 3 t25) fun t26 w =>
 o pr E w (sBuild 70 [(0, t26), (1, (Value.int IntKind.i64 3))]) fun t27 w =>
 o pr E w (sFA 26 t3 3) fun t28 w =>
 o pr E w (sLoad 3 t28) fun t29 w =>
 o pr E w (sBuild 70 [(0, t29), (1, (Value.int IntKind.i64 3))]) fun t30 w =>
 o pr E w (sBuild 71 [(0, t21), (1, t24), (2, t27), (3, t30)]) fun t31 w =>
 ∃ (I1 : List Value → World → Prop) (m1 : List Value → World → Nat), I1 [(Value.int IntKind.i64 0)] w ∧
 ∀ (e1 : Nat → Value) w1, I1 [e1 32] w1 → (fun w =>
 o pr E w (sBinC .lss 3 (e1 32) (Value.int IntKind.i64 4) 3) fun t33 w =>
 condP t33 (o pr E w (sIdx 71 t31 (e1 32)) fun t34 w =>
 o pr E w (sAlloc 70) fun t9 w =>
 o pr E w (sStore 70 t9 t34) fun _ w =>
 (fun (k7 : Value → World → Prop) =>
 o pr E w (sIA 70 t9 (Value.int IntKind.i64 0)) fun t35 w =>
 o pr E w (sLoad 3 t35) fun t36 w =>
 o pr E w (sBinC .lss 3 t36 (Value.int IntKind.i64 0) 3) fun t37 w =>
 condG t37 false (o pr E w (sIA 70 t9 (Value.int IntKind.i64 0)) fun t39 w =>
 o pr E w (sLoad 3 t39) fun t40 w =>
 o pr E w (sIA 70 t9 (Value.int IntKind.i64 1)) fun t41 w =>
 o pr E w (sLoad 3 t41) fun t42 w =>
 o pr E w (sBin .gtr 3 t40 t42 3) fun t43 w =>
 o pr E w (sPick t37 (Value.bool true) t43) fun t44_1 w =>
 k7 t44_1 w)
  (o pr E w (sPick t37 (Value.bool true) undef) fun t44_2 w =>
 k7 t44_2 w))
 (fun t44 w =>
 condP t44 (o pr E w (sBuild 41 []) fun t45 w =>
 o pr E w (sIface 44 (Value.int IntKind.i64 5)) fun t46 w =>
 o pr E w (sStore 41 t4 t45) fun _ w =>
 rs pr w t4 41 fun v0_1 =>
 K (.tuple #[v0_1, t46]) w)
  (o pr E w (sBinC .add 3 (e1 32) (Value.int IntKind.i64 1) 3) fun t47 w =>
 I1 [t47] w ∧ m1 [t47] w < m1 [e1 32] w1)))
  (o pr E w (sLoad 26 t3) fun t49 w =>
 cl pr E w n_analysis_Analyze #[t13, t49] fun t50 w =>
 o pr E w (sStore 41 t4 t50) fun _ w =>
 rs pr w t4 41 fun v0_2 =>
 K (.tuple #[v0_2, (Value.nilIface)]) w)) w1)
def lv_inv_Analyze : Lives := [(1, [0, 3, 4]), (2, [3, 4, 6, 7]), (3, [3, 4, 6, 7, 16]), (4, [3, 4, 6]), (5, [3, 4, 6, 31, 32]), (6, [3, 4, 6, 31, 32, 33]), (7, [3, 4, 6, 9, 31, 32]), (8, [3, 4, 6, 31, 32, 44]), (9, [3, 4, 6, 31, 32]), (10, [3, 4, 6])]
theorem sh_inv_Analyze_ok (a0 a1 : Value) (w : World) (R : Ending → World → Prop)
 (h : sh_inv_Analyze (fun v w => R (.returned v) w) (fun c w => R (.panicked c) w) a0 a1 w) : Calls pr n_inv_Analyze #[a0, a1] w R :=
 calls_of_W (A := lv_inv_Analyze) enters mixed Go.Proofs.Tryz.func12 (by kernel_rfl) (by kernel_rfl) (by kernel_rfl)
  (Eq.mp (by kernel_rfl) h)
def sh_law_knows (K : Value → World → Prop) (E : PanicK) (a0 : Value) (w : World) : Prop :=
 o pr E w (sBuild 26 [(0, a0)]) fun t10 w =>
 cl pr E w n_inv_Analyze #[(Value.string (S [97, 32, 61, 32, 54, 59, 32, 98, 32, 61, 32, 97, 32, 47, 32, 50, 59, 32, 114, 101, 97, 100, 32, 99, 59, 32, 97, 115, 115, 101, 114, 116, 32, 99, 32, 33, 61, 32, 49, 59])), t10] fun t11 w =>
 o pr E w (sExt t11 0) fun t12 w =>
 o pr E w (sExt t11 1) fun t13 w =>
 o pr E w (sAlloc 41) fun t3 w =>
 o pr E w (sStore 41 t3 t12) fun _ w =>
 cl pr E w n_api_Tell #[t13] fun t16 w =>
 o pr E w (sExt t16 0) fun t17 w =>
 o pr E w (sExt t16 1) fun _ w =>
 (fun (k3 : Value → World → Prop) =>
 cl pr E w n_law_num #[t17] fun t20 w =>
 o pr E w (sBinC .neq 3 t20 (Value.int IntKind.i64 0) 3) fun t21 w =>
 condG t21 false (o pr E w (sFA 41 t3 0) fun t23 w =>
 o pr E w (sLoad 39 t23) fun t24 w =>
 o pr E w (sB .len [39] 3 [t24]) fun t25 w =>
 o pr E w (sBinC .neq 3 t25 (Value.int IntKind.i64 5) 3) fun t26 w =>
 o pr E w (sPick t21 (Value.bool true) t26) fun t27 w =>
 condG t27 false (o pr E w (sFA 41 t3 1) fun t29 w =>
 o pr E w (sLoad 22 t29) fun t30 w =>
 o pr E w (sB .len [22] 3 [t30]) fun t31 w =>
 o pr E w (sBinC .neq 3 t31 (Value.int IntKind.i64 2) 3) fun t32 w =>
 o pr E w (sPick t27 (Value.bool true) t32) fun t33_1 w =>
 k3 t33_1 w)
  (o pr E w (sPick t27 (Value.bool true) undef) fun t33_2 w =>
 k3 t33_2 w))
  (o pr E w (sPick t21 (Value.bool true) undef) fun t27_1 w =>
 condG t27_1 false (o pr E w (sFA 41 t3 1) fun t29_1 w =>
 o pr E w (sLoad 22 t29_1) fun t30_1 w =>
 o pr E w (sB .len [22] 3 [t30_1]) fun t31_1 w =>
 o pr E w (sBinC .neq 3 t31_1 (Value.int IntKind.i64 2) 3) fun t32_1 w =>
 o pr E w (sPick t27_1 (Value.bool true) t32_1) fun t33_3 w =>
 k3 t33_3 w)
  (o pr E w (sPick t27_1 (Value.bool true) undef) fun t33_4 w =>
 k3 t33_4 w)))
 (fun t33 w =>
 condP t33 (K (Value.bool false) w)
  (o pr E w (sFA 41 t3 0) fun t34 w =>
 o pr E w (sLoad 39 t34) fun t35 w =>
 o pr E w (sIA 39 t35 (Value.int IntKind.i64 4)) fun t36 w =>
 o pr E w (sFA 54 t36 1) fun t37 w =>
 o pr E w (sIA 52 t37 (Value.int IntKind.i64 1)) fun t38 w =>
 o pr E w (sLoad 51 t38) fun t39 w =>
 o pr E w (sAlloc 51) fun t7 w =>
 o pr E w (sStore 51 t7 t39) fun _ w =>
 (fun (k6 : Value → World → Prop) =>
 o pr E w (sFA 41 t3 0) fun t40 w =>
 o pr E w (sLoad 39 t40) fun t41 w =>
 o pr E w (sIA 39 t41 (Value.int IntKind.i64 4)) fun t42 w =>
 o pr E w (sFA 54 t42 0) fun t43 w =>
 o pr E w (sLoad 4 t43) fun t44 w =>
 condG t44 true (o pr E w (sFA 51 t7 1) fun t46 w =>
 o pr E w (sLoad 2 t46) fun t47 w =>
 o pr E w (sBinC .eql 2 t47 (Value.int IntKind.i64 3) 2) fun t48 w =>
 o pr E w (sPick t44 t48 (Value.bool false)) fun t49 w =>
 condG t49 true (o pr E w (sFA 41 t3 1) fun t51 w =>
 o pr E w (sLoad 22 t51) fun t52 w =>
 o pr E w (sIA 22 t52 (Value.int IntKind.i64 0)) fun t53 w =>
 o pr E w (sLoad 3 t53) fun t54 w =>
 o pr E w (sBinC .eql 3 t54 (Value.int IntKind.i64 1) 3) fun t55 w =>
 o pr E w (sPick t49 t55 (Value.bool false)) fun t56 w =>
 condG t56 true (o pr E w (sFA 41 t3 1) fun t58 w =>
 o pr E w (sLoad 22 t58) fun t59 w =>
 o pr E w (sIA 22 t59 (Value.int IntKind.i64 1)) fun t60 w =>
 o pr E w (sLoad 3 t60) fun t61 w =>
 o pr E w (sBinC .eql 3 t61 (Value.int IntKind.i64 2) 3) fun t62 w =>
 o pr E w (sPick t56 t62 (Value.bool false)) fun t63 w =>
 k6 t63 w)
  (o pr E w (sPick t56 undef (Value.bool false)) fun t63_1 w =>
 k6 t63_1 w))
  (o pr E w (sPick t49 undef (Value.bool false)) fun t56_1 w =>
 condG t56_1 true (o pr E w (sFA 41 t3 1) fun t58_1 w =>
 o pr E w (sLoad 22 t58_1) fun t59_1 w =>
 o pr E w (sIA 22 t59_1 (Value.int IntKind.i64 1)) fun t60_1 w =>
 o pr E w (sLoad 3 t60_1) fun t61_1 w =>
 o pr E w (sBinC .eql 3 t61_1 (Value.int IntKind.i64 2) 3) fun t62_1 w =>
 o pr E w (sPick t56_1 t62_1 (Value.bool false)) fun t63_2 w =>
 k6 t63_2 w)
  (o pr E w (sPick t56_1 undef (Value.bool false)) fun t63_3 w =>
 k6 t63_3 w)))
  (o pr E w (sPick t44 undef (Value.bool false)) fun t49_1 w =>
 condG t49_1 true (o pr E w (sFA 41 t3 1) fun t51_1 w =>
 o pr E w (sLoad 22 t51_1) fun t52_1 w =>
 o pr E w (sIA 22 t52_1 (Value.int IntKind.i64 0)) fun t53_1 w =>
 o pr E w (sLoad 3 t53_1) fun t54_1 w =>
 o pr E w (sBinC .eql 3 t54_1 (Value.int IntKind.i64 1) 3) fun t55_1 w =>
 o pr E w (sPick t49_1 t55_1 (Value.bool false)) fun t56_2 w =>
 condG t56_2 true (o pr E w (sFA 41 t3 1) fun t58_2 w =>
 o pr E w (sLoad 22 t58_2) fun t59_2 w =>
 o pr E w (sIA 22 t59_2 (Value.int IntKind.i64 1)) fun t60_2 w =>
 o pr E w (sLoad 3 t60_2) fun t61_2 w =>
 o pr E w (sBinC .eql 3 t61_2 (Value.int IntKind.i64 2) 3) fun t62_2 w =>
 o pr E w (sPick t56_2 t62_2 (Value.bool false)) fun t63_4 w =>
 k6 t63_4 w)
  (o pr E w (sPick t56_2 undef (Value.bool false)) fun t63_5 w =>
 k6 t63_5 w))
  (o pr E w (sPick t49_1 undef (Value.bool false)) fun t56_3 w =>
 condG t56_3 true (o pr E w (sFA 41 t3 1) fun t58_3 w =>
 o pr E w (sLoad 22 t58_3) fun t59_3 w =>
 o pr E w (sIA 22 t59_3 (Value.int IntKind.i64 1)) fun t60_3 w =>
 o pr E w (sLoad 3 t60_3) fun t61_3 w =>
 o pr E w (sBinC .eql 3 t61_3 (Value.int IntKind.i64 2) 3) fun t62_3 w =>
 o pr E w (sPick t56_3 t62_3 (Value.bool false)) fun t63_6 w =>
 k6 t63_6 w)
  (o pr E w (sPick t56_3 undef (Value.bool false)) fun t63_7 w =>
 k6 t63_7 w))))
 (fun t2 w =>
 K t2 w)))
def lv_law_knows : Lives := [(1, [0]), (2, [3, 4]), (3, [3, 5]), (4, [3, 33]), (5, [3]), (6, [3, 7])]
theorem sh_law_knows_ok (a0 : Value) (w : World) (R : Ending → World → Prop)
 (h : sh_law_knows (fun v w => R (.returned v) w) (fun c w => R (.panicked c) w) a0 w) : Calls pr n_law_knows #[a0] w R :=
 calls_of_W (A := lv_law_knows) enters mixed Go.Proofs.Tryz.func7 (by kernel_rfl) (by kernel_rfl) (by kernel_rfl)
  (Eq.mp (by kernel_rfl) h)
def sh_law_config (K : Value → World → Prop) (E : PanicK) (a0 a1 a2 a3 a4 : Value) (w : World) : Prop :=
 o pr E w (sAlloc 26) fun t10 w =>
 o pr E w (sBuild 26 [(0, a0), (4, a4)]) fun t14 w =>
 o pr E w (sAlloc 26) fun t11 w =>
 o pr E w (sStore 26 t11 t14) fun _ w =>
 o pr E w (sConv 3 62 a1) fun t16 w =>
 o pr E w (sBinC .rem 62 t16 (Value.int IntKind.u64 5) 62) fun t17 w =>
 o pr E w (sConv 62 3 t17) fun t18 w =>
 o pr E w (sFA 26 t11 1) fun t19 w =>
 o pr E w (sStore 3 t19 t18) fun _ w =>
 o pr E w (sConv 3 62 a2) fun t21 w =>
 o pr E w (sBinC .rem 62 t21 (Value.int IntKind.u64 4) 62) fun t22 w =>
 o pr E w (sConv 62 3 t22) fun t23 w =>
 o pr E w (sFA 26 t11 2) fun t24 w =>
 o pr E w (sStore 3 t24 t23) fun _ w =>
 o pr E w (sConv 3 62 a3) fun t26 w =>
 o pr E w (sBinC .rem 62 t26 (Value.int IntKind.u64 4) 62) fun t27 w =>
 o pr E w (sConv 62 3 t27) fun t28 w =>
 o pr E w (sFA 26 t11 3) fun t29 w =>
 o pr E w (sStore 3 t29 t28) fun _ w =>
 o pr E w (sLoad 26 t11) fun t30 w =>
 o pr E w (sStore 26 t10 t30) fun _ w =>
 rs pr w t10 26 fun v0_0 =>
 K v0_0 w
def lv_law_config : Lives := [(1, [0, 1, 2, 3, 4, 10]), (2, [1, 2, 3, 10, 11]), (3, [2, 3, 10, 11]), (4, [3, 10, 11]), (5, [10, 11])]
theorem sh_law_config_ok (a0 a1 a2 a3 a4 : Value) (w : World) (R : Ending → World → Prop)
 (h : sh_law_config (fun v w => R (.returned v) w) (fun c w => R (.panicked c) w) a0 a1 a2 a3 a4 w) : Calls pr n_law_config #[a0, a1, a2, a3, a4] w R :=
 calls_of_W (A := lv_law_config) enters mixed Go.Proofs.Tryz.func8 (by kernel_rfl) (by kernel_rfl) (by kernel_rfl)
  (Eq.mp (by kernel_rfl) h)
def sh_law_has (K : Value → World → Prop) (E : PanicK) (a0 a1 a2 : Value) (w : World) : Prop :=
 o pr E w (sBox 51 a1) fun t4 w =>
 o pr E w (sBinC .eql 3 a0 (Value.int IntKind.i64 0) 3) fun t8 w =>
 condP t8 ((fun (k2 : Value → World → Prop) =>
 o pr E w (sFA 51 t4 0) fun t9 w =>
 o pr E w (sLoad 2 t9) fun t10 w =>
 o pr E w (sBin .leq 2 t10 a2 2) fun t12 w =>
 condG t12 true (o pr E w (sFA 51 t4 1) fun t15 w =>
 o pr E w (sLoad 2 t15) fun t16 w =>
 o pr E w (sBin .leq 2 a2 t16 2) fun t17 w =>
 o pr E w (sPick t12 t17 (Value.bool false)) fun t18 w =>
 k2 t18 w)
  (o pr E w (sPick t12 undef (Value.bool false)) fun t18_1 w =>
 k2 t18_1 w))
 (fun t6 w =>
 K t6 w))
  (o pr E w (sFA 51 t4 0) fun t19 w =>
 o pr E w (sLoad 2 t19) fun t20 w =>
 o pr E w (sBinC .eql 2 t20 (Value.int IntKind.i64 0) 2) fun t21 w =>
 condP t21 (o pr E w (sFA 51 t4 1) fun t23 w =>
 o pr E w (sLoad 2 t23) fun t24 w =>
 o pr E w (sBin .eql 2 a2 t24 2) fun t25 w =>
 K t25 w)
  ((fun (k5 : Value → World → Prop) =>
 o pr E w (sFA 51 t4 0) fun t26 w =>
 o pr E w (sLoad 2 t26) fun t27 w =>
 o pr E w (sBinC .gtr 2 t27 (Value.int IntKind.i64 0) 2) fun t28 w =>
 condG t28 true (o pr E w (sFA 51 t4 1) fun t31 w =>
 o pr E w (sLoad 2 t31) fun t32 w =>
 o pr E w (sBin .sub 2 a2 t32 2) fun t33 w =>
 o pr E w (sFA 51 t4 0) fun t34 w =>
 o pr E w (sLoad 2 t34) fun t35 w =>
 o pr E w (sBin .rem 2 t33 t35 2) fun t36 w =>
 o pr E w (sBinC .eql 2 t36 (Value.int IntKind.i64 0) 2) fun t37 w =>
 o pr E w (sPick t28 t37 (Value.bool false)) fun t38 w =>
 k5 t38 w)
  (o pr E w (sPick t28 undef (Value.bool false)) fun t38_1 w =>
 k5 t38_1 w))
 (fun t6_1 w =>
 K t6_1 w)))
def lv_law_has : Lives := [(1, [0, 2, 4]), (2, [2, 4, 8]), (3, [2, 4]), (4, [2, 4, 21]), (5, [2, 4])]
theorem sh_law_has_ok (a0 a1 a2 : Value) (w : World) (R : Ending → World → Prop)
 (h : sh_law_has (fun v w => R (.returned v) w) (fun c w => R (.panicked c) w) a0 a1 a2 w) : Calls pr n_law_has #[a0, a1, a2] w R :=
 calls_of_W (A := lv_law_has) enters mixed Go.Proofs.Tryz.func17 (by kernel_rfl) (by kernel_rfl) (by kernel_rfl)
  (Eq.mp (by kernel_rfl) h)
def sh_law_sound (K : Value → World → Prop) (E : PanicK) (a0 a1 a2 : Value) (w : World) : Prop :=
 o pr E w (sBox 26 a2) fun t5 w =>
 cl pr E w n_law_inputs #[a1] fun t23 w =>
 o pr E w (sExt t23 0) fun t24 w =>
 o pr E w (sExt t23 1) fun _ w =>
 cl pr E w n_inv_Run #[a0, t24, (Value.int IntKind.i64 300)] fun t29 w =>
 o pr E w (sExt t29 0) fun t30 w =>
 o pr E w (sExt t29 1) fun t31 w =>
 o pr E w (sAlloc 34) fun t9 w =>
 o pr E w (sStore 34 t9 t30) fun _ w =>
 o pr E w (sLoad 26 t5) fun t34 w =>
 cl pr E w n_inv_Analyze #[a0, t34] fun t35 w =>
 o pr E w (sExt t35 0) fun t36 w =>
 o pr E w (sExt t35 1) fun t37 w =>
 o pr E w (sAlloc 41) fun t11 w =>
 o pr E w (sStore 41 t11 t36) fun _ w =>
 cl pr E w n_api_Tell #[t31] fun t40 w =>
 o pr E w (sExt t40 0) fun t41 w =>
 o pr E w (sExt t40 1) fun _ w =>
 cl pr E w n_api_Tell #[t37] fun t45 w =>
 o pr E w (sExt t45 0) fun t46 w =>
 o pr E w (sExt t45 1) fun _ w =>
 (fun (k6 : Value → World → Prop) =>
 cl pr E w n_law_num #[t41] fun t49 w =>
 o pr E w (sBinC .neq 3 t49 (Value.int IntKind.i64 0) 3) fun t50 w =>
 condG t50 false (cl pr E w n_law_num #[t46] fun t53 w =>
 o pr E w (sBinC .neq 3 t53 (Value.int IntKind.i64 0) 3) fun t54 w =>
 o pr E w (sPick t50 (Value.bool true) t54) fun t55_1 w =>
 k6 t55_1 w)
  (o pr E w (sPick t50 (Value.bool true) undef) fun t55_2 w =>
 k6 t55_2 w))
 (fun t55 w =>
 condP t55 (cl pr E w n_law_num #[t41] fun t57 w =>
 cl pr E w n_law_num #[t46] fun t59 w =>
 o pr E w (sBin .eql 3 t57 t59 3) fun t60 w =>
 K t60 w)
  (∃ (I1 : List Value → World → Prop) (m1 : List Value → World → Nat), I1 [(Value.int IntKind.i64 0)] w ∧
 ∀ (e1 : Nat → Value) w1, I1 [e1 17] w1 → (fun w =>
 o pr E w (sFA 34 t9 0) fun t62 w =>
 o pr E w (sLoad 32 t62) fun t63 w =>
 o pr E w (sB .len [32] 3 [t63]) fun t64 w =>
 o pr E w (sBin .lss 3 (e1 17) t64 3) fun t65 w =>
 condP t65 (o pr E w (sFA 34 t9 0) fun t68 w =>
 o pr E w (sLoad 32 t68) fun t69 w =>
 o pr E w (sIA 32 t69 (e1 17)) fun t71 w =>
 o pr E w (sFA 59 t71 0) fun t72 w =>
 o pr E w (sLoad 3 t72) fun t73 w =>
 (fun (k12 : Value → World → Prop) =>
 o pr E w (sBinC .lss 3 t73 (Value.int IntKind.i64 0) 3) fun t75 w =>
 condG t75 false (o pr E w (sFA 41 t11 0) fun t78 w =>
 o pr E w (sLoad 39 t78) fun t79 w =>
 o pr E w (sB .len [39] 3 [t79]) fun t80 w =>
 o pr E w (sBin .geq 3 t73 t80 3) fun t81 w =>
 o pr E w (sPick t75 (Value.bool true) t81) fun t82 w =>
 condG t82 false (o pr E w (sFA 41 t11 0) fun t84 w =>
 o pr E w (sLoad 39 t84) fun t85 w =>
 o pr E w (sIA 39 t85 t73) fun t87 w =>
 o pr E w (sFA 54 t87 0) fun t88 w =>
 o pr E w (sLoad 4 t88) fun t89 w =>
 o pr E w (sUn .not 4 t89) fun t90 w =>
 o pr E w (sPick t82 (Value.bool true) t90) fun t91_1 w =>
 k12 t91_1 w)
  (o pr E w (sPick t82 (Value.bool true) undef) fun t91_2 w =>
 k12 t91_2 w))
  (o pr E w (sPick t75 (Value.bool true) undef) fun t82_1 w =>
 condG t82_1 false (o pr E w (sFA 41 t11 0) fun t84_1 w =>
 o pr E w (sLoad 39 t84_1) fun t85_1 w =>
 o pr E w (sIA 39 t85_1 t73) fun t87_1 w =>
 o pr E w (sFA 54 t87_1 0) fun t88_1 w =>
 o pr E w (sLoad 4 t88_1) fun t89_1 w =>
 o pr E w (sUn .not 4 t89_1) fun t90_1 w =>
 o pr E w (sPick t82_1 (Value.bool true) t90_1) fun t91_3 w =>
 k12 t91_3 w)
  (o pr E w (sPick t82_1 (Value.bool true) undef) fun t91_4 w =>
 k12 t91_4 w)))
 (fun t91 w =>
 condP t91 (K (Value.bool false) w)
  (∃ (I2 : List Value → World → Prop) (m2 : List Value → World → Nat), I2 [(Value.int IntKind.i64 0)] w ∧
 ∀ (e2 : Nat → Value) w2, I2 [e2 19] w2 → (fun w =>
 o pr E w (sBinC .lss 3 (e2 19) (Value.int IntKind.i64 8) 3) fun t93 w =>
 condP t93 ((fun w =>
 oz pr (sFA 26 t5 0) fun t96 =>
 oa pr w (sLoad 3 t96) fun t97 =>
 oz pr (sFA 41 t11 0) fun t98 =>
 oa pr w (sLoad 39 t98) fun t99 =>
 oz pr (sIA 39 t99 t73) fun t102 =>
 oz pr (sFA 54 t102 1) fun t103 =>
 oz pr (sIA 52 t103 (e2 19)) fun t104 =>
 oa pr w (sLoad 51 t104) fun t105 =>
 oz pr (sFA 34 t9 0) fun t106 =>
 oa pr w (sLoad 32 t106) fun t107 =>
 oz pr (sIA 32 t107 (e1 17)) fun t110 =>
 oz pr (sFA 59 t110 1) fun t111 =>
 oz pr (sIA 57 t111 (e2 19)) fun t112 =>
 oa pr w (sLoad 55 t112) fun t113 =>
 oz pr (sConv 55 2 t113) fun t114 =>
 cl pr E w n_law_has #[t97, t105, t114] fun t115 w =>
 o pr E w (sUn .not 4 t115) fun t117 w =>
 condP t117 (K (Value.bool false) w)
  (o pr E w (sBinC .add 3 (e2 19) (Value.int IntKind.i64 1) 3) fun t95 w =>
 I2 [t95] w ∧ m2 [t95] w < m2 [e2 19] w2)) (dr w))
  (o pr E w (sBinC .add 3 (e1 17) (Value.int IntKind.i64 1) 3) fun t67 w =>
 I1 [t67] w ∧ m1 [t67] w < m1 [e1 17] w1)) w2)))
  (o pr E w (sFA 34 t9 1) fun t118 w =>
 o pr E w (sLoad 3 t118) fun t119 w =>
 o pr E w (sBinC .geq 3 t119 (Value.int IntKind.i64 0) 3) fun t120 w =>
 condP t120 ((fun (k21 : Value → World → Prop) =>
 o pr E w (sFA 34 t9 1) fun t121 w =>
 o pr E w (sLoad 3 t121) fun t122 w =>
 o pr E w (sFA 41 t11 1) fun t123 w =>
 o pr E w (sLoad 22 t123) fun t124 w =>
 o pr E w (sB .len [22] 3 [t124]) fun t125 w =>
 o pr E w (sBin .lss 3 t122 t125 3) fun t126 w =>
 condG t126 true (o pr E w (sFA 41 t11 1) fun t128 w =>
 o pr E w (sLoad 22 t128) fun t129 w =>
 o pr E w (sFA 34 t9 1) fun t130 w =>
 o pr E w (sLoad 3 t130) fun t131 w =>
 o pr E w (sIA 22 t129 t131) fun t132 w =>
 o pr E w (sLoad 3 t132) fun t133 w =>
 o pr E w (sBinC .eql 3 t133 (Value.int IntKind.i64 2) 3) fun t134 w =>
 o pr E w (sPick t126 t134 (Value.bool false)) fun t135 w =>
 k21 t135 w)
  (o pr E w (sPick t126 undef (Value.bool false)) fun t135_1 w =>
 k21 t135_1 w))
 (fun t6 w =>
 K t6 w))
  (K (Value.bool true) w))) w1))
def lv_law_sound : Lives := [(1, [0, 1, 5]), (2, [0, 5, 7]), (3, [0, 5, 9, 10]), (4, [5, 9, 10, 11, 12]), (5, [5, 9, 11, 12, 13]), (6, [5, 9, 11, 13, 15]), (7, [5, 9, 11, 13, 15, 55]), (8, [5, 9, 11]), (9, [5, 9, 11, 17]), (10, [5, 9, 11, 17]), (11, [5, 9, 11, 17]), (12, [5, 9, 11, 17, 18]), (13, [5, 9, 11, 17, 18, 91]), (14, [5, 9, 11, 17, 18]), (15, [5, 9, 11, 17, 18, 19]), (16, [5, 9, 11, 17, 18, 19]), (17, [5, 9, 11, 17, 18, 19]), (18, [5, 9, 11, 17, 18, 19, 20]), (19, [5, 9, 11, 17, 18, 19, 117]), (20, [9, 11]), (21, [9, 11, 120]), (22, [])]
theorem sh_law_sound_ok (a0 a1 a2 : Value) (w : World) (R : Ending → World → Prop)
 (h : sh_law_sound (fun v w => R (.returned v) w) (fun c w => R (.panicked c) w) a0 a1 a2 w) : Calls pr n_law_sound #[a0, a1, a2] w R :=
 calls_of_W (A := lv_law_sound) enters mixed Go.Proofs.Tryz.func9 (by kernel_rfl) (by kernel_rfl) (by kernel_rfl)
  (Eq.mp (by kernel_rfl) h)
def sh_law_Sound (K : Value → World → Prop) (E : PanicK) (a0 a1 a2 a3 a4 a5 : Value) (w : World) : Prop :=
 cl pr E w n_law_runs #[] fun t16 w =>
 cl pr E w n_law_knows #[(Value.int IntKind.i64 0)] fun t17 w =>
 (fun (k3 : Value → World → Prop) =>
 o pr E w (sUn .not 4 t16) fun t19 w =>
 condG t19 false (o pr E w (sUn .not 4 t17) fun t22 w =>
 o pr E w (sPick t19 (Value.bool true) t22) fun t23 w =>
 condG t23 false (o pr E w (sB .len [9] 3 [a0]) fun t26 w =>
 o pr E w (sBinC .gtr 3 t26 (Value.int IntKind.i64 1048576) 3) fun t27 w =>
 o pr E w (sPick t23 (Value.bool true) t27) fun t28 w =>
 condG t28 false (o pr E w (sB .len [22] 3 [a1]) fun t31 w =>
 o pr E w (sBinC .gtr 3 t31 (Value.int IntKind.i64 1048576) 3) fun t32 w =>
 o pr E w (sPick t28 (Value.bool true) t32) fun t33_1 w =>
 k3 t33_1 w)
  (o pr E w (sPick t28 (Value.bool true) undef) fun t33_2 w =>
 k3 t33_2 w))
  (o pr E w (sPick t23 (Value.bool true) undef) fun t28_1 w =>
 condG t28_1 false (o pr E w (sB .len [22] 3 [a1]) fun t31_1 w =>
 o pr E w (sBinC .gtr 3 t31_1 (Value.int IntKind.i64 1048576) 3) fun t32_1 w =>
 o pr E w (sPick t28_1 (Value.bool true) t32_1) fun t33_3 w =>
 k3 t33_3 w)
  (o pr E w (sPick t28_1 (Value.bool true) undef) fun t33_4 w =>
 k3 t33_4 w)))
  (o pr E w (sPick t19 (Value.bool true) undef) fun t23_1 w =>
 condG t23_1 false (o pr E w (sB .len [9] 3 [a0]) fun t26_1 w =>
 o pr E w (sBinC .gtr 3 t26_1 (Value.int IntKind.i64 1048576) 3) fun t27_1 w =>
 o pr E w (sPick t23_1 (Value.bool true) t27_1) fun t28_2 w =>
 condG t28_2 false (o pr E w (sB .len [22] 3 [a1]) fun t31_2 w =>
 o pr E w (sBinC .gtr 3 t31_2 (Value.int IntKind.i64 1048576) 3) fun t32_2 w =>
 o pr E w (sPick t28_2 (Value.bool true) t32_2) fun t33_5 w =>
 k3 t33_5 w)
  (o pr E w (sPick t28_2 (Value.bool true) undef) fun t33_6 w =>
 k3 t33_6 w))
  (o pr E w (sPick t23_1 (Value.bool true) undef) fun t28_3 w =>
 condG t28_3 false (o pr E w (sB .len [22] 3 [a1]) fun t31_3 w =>
 o pr E w (sBinC .gtr 3 t31_3 (Value.int IntKind.i64 1048576) 3) fun t32_3 w =>
 o pr E w (sPick t28_3 (Value.bool true) t32_3) fun t33_7 w =>
 k3 t33_7 w)
  (o pr E w (sPick t28_3 (Value.bool true) undef) fun t33_8 w =>
 k3 t33_8 w))))
 (fun t33 w =>
 condP t33 ((fun (k4 : Value → World → Prop) =>
 condG t16 true (o pr E w (sPick t16 t17 (Value.bool false)) fun t37 w =>
 k4 t37 w)
  (o pr E w (sPick t16 undef (Value.bool false)) fun t37_1 w =>
 k4 t37_1 w))
 (fun t12 w =>
 K t12 w))
  (cl pr E w n_law_config #[(Value.int IntKind.i64 0), a2, a3, a4, a5] fun t42 w =>
 o pr E w (sAlloc 26) fun t15 w =>
 o pr E w (sStore 26 t15 t42) fun _ w =>
 o pr E w (sLoad 26 t15) fun t45 w =>
 cl pr E w n_law_sound #[a0, a1, t45] fun t46 w =>
 K t46 w))
def lv_law_Sound : Lives := [(1, [0, 1, 2, 3, 4, 5]), (2, [0, 1, 2, 3, 4, 5, 13]), (3, [0, 1, 2, 3, 4, 5, 13, 14]), (4, [0, 1, 2, 3, 4, 5, 13, 14, 33]), (5, [0, 1, 2, 3, 4, 5]), (6, [0, 1, 15])]
theorem sh_law_Sound_ok (a0 a1 a2 a3 a4 a5 : Value) (w : World) (R : Ending → World → Prop)
 (h : sh_law_Sound (fun v w => R (.returned v) w) (fun c w => R (.panicked c) w) a0 a1 a2 a3 a4 a5 w) : Calls pr n_law_Sound #[a0, a1, a2, a3, a4, a5] w R :=
 calls_of_W (A := lv_law_Sound) enters mixed Go.Proofs.Tryz.func3 (by kernel_rfl) (by kernel_rfl) (by kernel_rfl)
  (Eq.mp (by kernel_rfl) h)
end Go.Inv
namespace Go.Inv
open Go.Sh
theorem made_rep (z : Array Value) (hz : 0 < z.size) : ∀ n : Nat, (madeCells z (n * z.size)).toList = (List.replicate n z.toList).flatten
 | 0 => by simp [madeCells]
 | n + 1 => by
   have ih := made_rep z hz n
   have h1 : ∀ m, (madeCells z m).toList = (List.range m).map (fun j => z[j % z.size]!) := fun m => by simp [madeCells]
   rw [h1] at ih ⊢
   rw [Nat.add_mul, Nat.one_mul, List.range_add, List.map_append, ih, List.replicate_succ', List.flatten_append]
   congr 1
   simp only [List.map_map, List.flatten_cons, List.flatten_nil, List.append_nil]
   apply List.ext_getElem?
   intro j
   by_cases hj : j < z.size
   ·simp [hj, Nat.mul_add_mod_self_right, Nat.mod_eq_of_lt hj]
   ·simp [hj]
theorem made_fc (n : Nat) : madeCells (sA n0) (n * 17) = fcA spE (List.replicate n n0) := by
 apply Array.toList_inj.1
 have hs : (sA n0).size = 17 := rfl
 have := made_rep (sA n0) (by rw [hs]; omega) n
 rw [hs] at this
 rw [this]
 unfold fcA sA stA
 simp only [List.flatMap_replicate]
theorem run_sMake {t e : TypeId} {k b : Nat} {i : TypeInfo} {z : Value} {w : World} (ht : pr.underlying t = some (.slice e)) (hi : pr.info? e = some i) (hz : i.zero = some z) (hk : i.size = k) (hb : i.bytes = b) {n : Nat} (hbn : b * n ≤ 281474976710656) (h63 : n ≤ 9223372036854775807) :
 (sMake t (vi n) (vi n)).run pr w = .ok (.value (.slice (some ⟨w.heap.size, 0, none⟩) n n)) (w.alloc (.cells (madeCells z.cells (n * k)) e)) := by
 have hbz : (i.bytes : Int) * (n : Int) ≤ 281474976710656 := by
  rw [hb]
  have h : ((b * n : Nat) : Int) ≤ 281474976710656 := by omega
  rwa [Int.natCast_mul] at h
 have hr := run_make (P := pr) w t e i z ht hi hz .i64 .i64 n n (by omega) (Int.le_refl _) hbz (by omega)
 rw [hk] at hr
 simp only [Int.toNat_natCast] at hr
 simp only [sMake, opc, execOp]
 simp [ev, hr, Result.andThen]
theorem inf253 : ∃ i z, pr.info? 177 = some i ∧ i.zero = some z ∧ i.size = 17 ∧ i.bytes = 136 ∧ z.cells = sA n0 := by
 have h1 : (pr.info? 177).map (·.size) = some 17 := by kernel_rfl
 have h2 : (pr.info? 177).map (·.bytes) = some 136 := by kernel_rfl
 have h3 : ((pr.info? 177).bind (·.zero)).map (·.cells) = some (sA n0) := by kernel_rfl
 cases hi : pr.info? 177 with
 | none => rw [hi] at h1; cases h1
 | some i =>
   rw [hi] at h1 h2 h3
   simp only [Option.map_some, Option.some.injEq, Option.bind_some] at h1 h2 h3
   cases hz : i.zero with
   | none => rw [hz] at h3; cases h3
   | some z => rw [hz] at h3; exact ⟨i, z, rfl, hz, h1, h2, by simpa using h3⟩
theorem inf103 : ∃ i z, pr.info? 54 = some i ∧ i.zero = some z ∧ i.size = 17 ∧ i.bytes = 136 ∧ z.cells = sA n0 := by
 have h1 : (pr.info? 54).map (·.size) = some 17 := by kernel_rfl
 have h2 : (pr.info? 54).map (·.bytes) = some 136 := by kernel_rfl
 have h3 : ((pr.info? 54).bind (·.zero)).map (·.cells) = some (sA n0) := by kernel_rfl
 cases hi : pr.info? 54 with
 | none => rw [hi] at h1; cases h1
 | some i =>
   rw [hi] at h1 h2 h3
   simp only [Option.map_some, Option.some.injEq, Option.bind_some] at h1 h2 h3
   cases hz : i.zero with
   | none => rw [hz] at h3; cases h3
   | some z => rw [hz] at h3; exact ⟨i, z, rfl, hz, h1, h2, by simpa using h3⟩
theorem inf3 : ∃ i, pr.info? 3 = some i ∧ i.zero = some (vi 0) ∧ i.size = 1 ∧ i.bytes = 8 := by
 have h1 : (pr.info? 3).map (·.size) = some 1 := by kernel_rfl
 have h2 : (pr.info? 3).map (·.bytes) = some 8 := by kernel_rfl
 have h3 : ((pr.info? 3).bind (·.zero)) = some (vi 0) := by kernel_rfl
 cases hi : pr.info? 3 with
 | none => rw [hi] at h1; cases h1
 | some i =>
   rw [hi] at h1 h2 h3
   simp only [Option.map_some, Option.some.injEq, Option.bind_some] at h1 h2 h3
   exact ⟨i, rfl, h3, h1, h2⟩
theorem u248 : pr.underlying 172 = some (.slice 177) := by kernel_rfl
theorem u47 : pr.underlying 39 = some (.slice 54) := by kernel_rfl
theorem u22 : pr.underlying 22 = some (.slice 3) := by kernel_rfl
theorem mk_states {n : Nat} (hn : n ≤ 1000000000) (w : World) : (sMake 172 (vi n) (vi n)).run pr w = .ok (.value (.slice (some ⟨w.heap.size, 0, none⟩) n n)) (w.alloc (.cells (fcA spE (List.replicate n n0)) 177)) := by
 obtain ⟨i, z, h1, h2, h3, h4, h5⟩ := inf253
 have := run_sMake (w := w) u248 h1 h2 h3 h4 (n := n) (by omega) (by omega)
 rw [h5, made_fc] at this
 exact this
theorem mk_facts {n : Nat} (hn : n ≤ 1000000000) (w : World) : (sMake 39 (vi n) (vi n)).run pr w = .ok (.value (.slice (some ⟨w.heap.size, 0, none⟩) n n)) (w.alloc (.cells (fcA spE (List.replicate n n0)) 54)) := by
 obtain ⟨i, z, h1, h2, h3, h4, h5⟩ := inf103
 have := run_sMake (w := w) u47 h1 h2 h3 h4 (n := n) (by omega) (by omega)
 rw [h5, made_fc] at this
 exact this
theorem mk_ints {n : Nat} (hn : n ≤ 1000000000) (w : World) : (sMake 22 (vi n) (vi n)).run pr w = .ok (.value (.slice (some ⟨w.heap.size, 0, none⟩) n n)) (w.alloc (.cells (((List.replicate n 0).map fun m : Nat => vi m).toArray) 3)) := by
 obtain ⟨i, h1, h2, h3, h4⟩ := inf3
 have := run_sMake (w := w) u22 h1 h2 h3 h4 (n := n) (by omega) (by omega)
 have e : madeCells (vi 0).cells (n * 1) = ((List.replicate n 0).map fun m : Nat => vi m).toArray := by
  apply Array.toList_inj.1
  have := made_rep #[vi 0] (by decide) n
  rw [show (vi 0).cells = #[vi 0] from rfl]
  rw [show (#[vi 0] : Array Value).size = 1 from rfl] at this
  rw [this]
  simp
 rw [e] at this
 exact this
theorem row_fcv {fs : List (St Span)} {i v t : Nat} {f : Nat × Nat} (u : Span) (h : ∀ x ∈ fs, x.vars.length = 8) (hi : i < fs.length) (hv : v < 8) :
 Option.map (rowObj (i * 17 + 1 + v * 2) [vi u.lo, vi u.hi]) (some (.cells (fcA spE fs) t f)) = some (.cells (fcA spE (fs.set i (setSt v u (fs.getD i n0)))) t f) := by
 obtain ⟨h1, h2⟩ := fc_split spE (d := n0) h hi
 have hx := h _ (mem_getD (d := n0) hi)
 obtain ⟨g1, g2⟩ := st_split spE (d := u) hx hv
 simp only [Option.map_some, rowObj]
 congr 2
 unfold fcA
 rw [h1, g1]
 have hs := setR_mid (r := ((fs.getD i n0).vars.drop (v + 1)).flatMap spE.l ++ (fs.drop (i + 1)).flatMap (stL spE)) [vi u.lo, vi u.hi] ((fs.take i).flatMap (stL spE) ++ (Value.bool (fs.getD i n0).some :: ((fs.getD i n0).vars.take v).flatMap spE.l)) (spE.l ((fs.getD i n0).vars.getD v u)) rfl
 rw [List.length_append, h2, g2] at hs
 have ea : i * 17 + 1 + v * 2 = i * 17 + (1 + v * 2) := by omega
 rw [ea]
 have ee : (fs.take i).flatMap (stL spE) ++ ((Value.bool (fs.getD i n0).some :: ((fs.getD i n0).vars.take v).flatMap spE.l ++ (spE.l ((fs.getD i n0).vars.getD v u) ++ ((fs.getD i n0).vars.drop (v + 1)).flatMap spE.l)) ++ (fs.drop (i + 1)).flatMap (stL spE)) =
  ((fs.take i).flatMap (stL spE) ++ (Value.bool (fs.getD i n0).some :: ((fs.getD i n0).vars.take v).flatMap spE.l)) ++ (spE.l ((fs.getD i n0).vars.getD v u) ++ (((fs.getD i n0).vars.drop (v + 1)).flatMap spE.l ++ (fs.drop (i + 1)).flatMap (stL spE))) := by
  simp only [List.append_assoc, List.cons_append]
 rw [ee, hs, flat_set _ hi]
 congr 1
 have e2 : stL spE (setSt v u (fs.getD i n0)) = Value.bool (fs.getD i n0).some :: (((fs.getD i n0).vars.take v).flatMap spE.l ++ (spE.l u ++ ((fs.getD i n0).vars.drop (v + 1)).flatMap spE.l)) := by
  unfold stL setSt
  simp only
  rw [flat_set u (by omega)]
 rw [e2]
 simp only [List.append_assoc, List.cons_append]
 rfl
end Go.Inv
namespace Go.Inv
open Go.Sh
theorem idx_vars {x : St Span} (hx : x.vars.length = 8) {k : Nat} (hk : k < 8) (w : World) : (sIdx 175 (.agg (x.vars.flatMap spE.l).toArray) (vi k)).run pr w = .ok (.value (spV (x.vars.getD k ⟨0, 0⟩))) w := by
 have hp := vars_part hx hk w
 obtain ⟨i, hi⟩ := i162
 have h0 : (0 : Int) ≤ k := Int.natCast_nonneg k
 have hs : ∀ w, (sizeOf 107).run pr w = .ok 2 w := fun w => (aggT_spec (w := w) ag107).2
 simp [sIdx, opc, execOp, ev, Instr.index, asIntOf, run_underlying u251, h0, hs, hp]
 intro h; omega
theorem el39 : elemT pr 39 = some 17 := by kernel_rfl
theorem el52 : elemA pr 52 = some (8, 2) := by kernel_rfl
theorem rIA47 (b n c i : Nat) (h : i < n) : Pur pr (sIA 39 (.slice (some ⟨b, 0, none⟩) n c) (vi i)) (pt b (i * 17)) := by
 have := pur_IAs (b := b) (off := 0) (n := n) (c := c) el39 (Int.natCast_nonneg i) (by omega : (i : Int) < n)
 simpa using this
theorem rIA101 (b o v : Nat) (h : v < 8) : Pur pr (sIA 52 (pt b o) (vi v)) (pt b (o + v * 2)) := by
 have := pur_IAa (b := b) (off := o) el52 (Int.natCast_nonneg v) (by omega : (v : Int) < (8 : Nat))
 simpa using this
def rpR (fs : List (St Span)) (i : Nat) : List (St Span) := fs.take i ++ List.replicate (fs.length - i) n0
theorem rpR_len (fs : List (St Span)) {i : Nat} (hi : i ≤ fs.length) : (rpR fs i).length = fs.length := by unfold rpR; simp; omega
theorem rpR_lens {fs : List (St Span)} (h : ∀ x ∈ fs, x.vars.length = 8) (i : Nat) : ∀ x ∈ rpR fs i, x.vars.length = 8 := fun x hx => by
 unfold rpR at hx
 rcases List.mem_append.1 hx with hx | hx
 ·exact h x (List.mem_of_mem_take hx)
 ·rw [(List.mem_replicate.1 hx).2]; rfl
theorem rpR_get (fs : List (St Span)) {i : Nat} (hi : i < fs.length) : (rpR fs i).getD i n0 = n0 := by
 unfold rpR
 rw [List.getD_eq_getElem?_getD, List.getElem?_append_right (by simp; omega)]
 simp [List.getElem?_replicate]
 split <;> rfl
theorem rpR_step (fs : List (St Span)) {i : Nat} (hi : i < fs.length) : (rpR fs i).set i (fs.getD i n0) = rpR fs (i + 1) := by
 unfold rpR
 have hl : (fs.take i).length = i := by simp; omega
 obtain ⟨m, hm⟩ : ∃ m, fs.length - i = m + 1 := ⟨fs.length - i - 1, by omega⟩
 rw [hm, show fs.length - (i + 1) = m by omega, List.replicate_succ, List.set_append_right _ _ (by omega), hl, Nat.sub_self, List.set_cons_zero, List.take_add_one, List.append_assoc]
 simp [List.getD_eq_getElem?_getD, hi]
def selB (_ b : Span) : Span := b
structure RpF (C : SvC) (w : World) (a : AS Span) (br rb b6 : Nat) (rows : List (St Span)) (w' : World) : Prop where
 old : Old w w'
 sv : SvAt C w' a 0
 br : w'.heap[br]? = some (.cells #[.slice (some ⟨rb, 0, none⟩) C.P C.P, .slice (some ⟨C.sb, 0, none⟩) C.S C.S] 41 (0, 0))
 rb : w'.heap[rb]? = some (.cells (fcA spE rows) 54 (0, 0))
 b6 : w'.heap[b6]? = some (.cells #[.slice none 0 0, .slice none 0 0] 41 (0, 0))
structure RpC (C : SvC) (w : World) (br rb b6 : Nat) : Prop where
 ok : C.Ok
 ne : br ≠ rb
 n6 : b6 ≠ rb
 lo : w.heap.size ≤ rb
 lo6 : w.heap.size ≤ b6
 l1 : C.s < rb
 l2 : C.fb < rb
 l3 : C.sb < rb
theorem RpF.old' {C : SvC} {w w1 w2 : World} {a : AS Span} {br rb b6 : Nat} {rows : List (St Span)} (h : RpF C w a br rb b6 rows w1) (ho : Old w1 w2) : RpF C w a br rb b6 rows w2 :=
 ⟨h.old.trans ho, h.sv.old ho, ho.heap h.br, ho.heap h.rb, ho.heap h.b6⟩
theorem RpF.setv {C : SvC} {w w1 : World} {a : AS Span} {br rb b6 i v : Nat} {rows : List (St Span)} (hc : RpC C w br rb b6) (h : RpF C w a br rb b6 rows w1) (u : Span) (hl : ∀ x ∈ rows, x.vars.length = 8) (hi : i < rows.length) (hv : v < 8) :
 RpF C w a br rb b6 (rows.set i (setSt v u (rows.getD i n0))) (Sh.putL w1 rb (i * 17 + 1 + v * 2) [vi u.lo, vi u.hi]) :=
 ⟨h.old.putL hc.lo, h.sv.loc hc.ok hc.l1 hc.l2 hc.l3, by rw [heap_putL_ne hc.ne]; exact h.br, by rw [get_putL, if_pos rfl, h.rb]; exact row_fcv u hl hi hv, by rw [heap_putL_ne hc.n6]; exact h.b6⟩
def TlI (C : SvC) (w : World) (a : AS Span) (br rb b6 i : Nat) (rows : List (St Span)) (f : St Span) (vs : List Value) (w' : World) : Prop :=
 ∃ k : Nat, vs = [vi k] ∧ k ≤ 8 ∧ RpF C w a br rb b6 (rows.set i ⟨true, mixV selB k n0.vars f.vars⟩) w'
theorem tell_loop {C : SvC} {w w0 : World} {a : AS Span} {br rb b6 i : Nat} {rows : List (St Span)} {f : St Span} {E : PanicK} {e2 : Nat → Value} {j1 : List Value → World → Prop} (hc : RpC C w br rb b6) (he2 : e2 70 = vi i) (lf : f.vars.length = 8) (hfs : f.some = true) (hiP : i < C.P)
 (hl : ∀ x ∈ rows, x.vars.length = 8) (hi : i < rows.length) (h0 : RpF C w a br rb b6 (rows.set i ⟨true, n0.vars⟩) w0) (hj : ∀ w', RpF C w a br rb b6 (rows.set i f) w' → j1 [] w') :
 ∃ (I2 : List Value → World → Prop) (m2 : List Value → World → Nat), I2 [(Value.int IntKind.i64 0)] w0 ∧
   ∀ (e3 : Nat → Value) w2, I2 [e3 85] w2 → (ct_analysis_solve_Span_1 E e3 (.agg (f.vars.flatMap spE.l).toArray) (pt br 0) e2 (domV C.sv) I2 m2 w2 j1) w2 := by
 have l0 := n0_len
 refine ⟨TlI C w a br rb b6 i rows f, UnM 8, ⟨0, rfl, by omega, h0⟩, ?_⟩
 rintro e3 w1 ⟨k, he, hk, h1⟩
 have e85 : e3 85 = vi k := by simpa using he
 unfold ct_analysis_solve_Span_1
 rw [e85]
 simp only [↓RI, ↓RB, ↓RSs, ↓RT9, ↓RT7, ↓RT, ↓RG, RV]
 refine condJ (p := k < 8) (by simp only [decide_eq_decide]; omega) (fun h8 => ?_) (fun h8 => ?_)
 ·have jz : (w1.alloc (.cells #[vi 0, vi 0] tySpan)).heap[w1.heap.size]? = some (.cells #[vi 0, vi 0] tySpan) := heap_alloc_self _
  have ho2 := (((Old.refl w1).alloc (.cells #[vi 0, vi 0] tySpan)).putL (k := w1.heap.size) (vs := [vi (f.vars.getD k ⟨0, 0⟩).lo, vi (f.vars.getD k ⟨0, 0⟩).hi]) (i := 0) (Nat.le_refl _))
  have h2 := h1.old' ho2
  have c4 := putSp (p := vi (f.vars.getD k ⟨0, 0⟩).lo) (q := vi (f.vars.getD k ⟨0, 0⟩).hi) jz
  simp only [↓o_val (idx_vars lf h8 _), ↓RI, ↓RB, ↓RSs, ↓RT9, ↓RT7, ↓RT, ↓RG, RV, Lc, jz, List.all_cons, List.all_nil]
  generalize putL (w1.alloc (.cells #[vi 0, vi 0] tySpan)) w1.heap.size 0 [vi (f.vars.getD k ⟨0, 0⟩).lo, vi (f.vars.getD k ⟨0, 0⟩).hi] = w2 at *
  generalize w1.heap.size = b4 at *
  simp only [he2, ↓RI, ↓RB, ↓RSs, ↓RT9, ↓RT7, ↓RT, ↓RG, RV, Lc, h2.br, c4, (rIA47 _ _ _ _ hiP).oz]
  refine cl_of (itell_ok _ _ _) ?_
  rintro e w3 ⟨rfl, ho3⟩
  have h3 := h2.old' ho3.ofDr
  have hl' : ∀ x ∈ rows.set i (⟨true, mixV selB k n0.vars f.vars⟩ : St Span), x.vars.length = 8 := fun x hx => by
   rcases List.mem_or_eq_of_mem_set hx with hx | rfl
   ·exact hl x hx
   ·exact mix_len l0 lf hk
  have hi' : i < (rows.set i (⟨true, mixV selB k n0.vars f.vars⟩ : St Span)).length := by simpa using hi
  have h4 := h3.setv hc (f.vars.getD k ⟨0, 0⟩) hl' hi' h8
  have okr : okRow (some (.cells (fcA spE (rows.set i (⟨true, mixV selB k n0.vars f.vars⟩ : St Span))) 54 (0, 0))) (i * 17 + 1 + k * 2) 2 = true := by
   have := fc_size spE hl'
   simp [okRow, this]
   omega
  simp only [endK, he2, ↓RI, ↓RB, ↓RSs, ↓RT9, ↓RT7, ↓RT, ↓RG, RV, Lc, h3.br, h3.rb, okr, (rIA101 _ _ _ h8).oz, List.all_cons, List.all_nil, Is.step (show k ≤ 1000000001 by omega)]
  refine ⟨⟨k + 1, rfl, by omega, ?_⟩, by simp only [UnM, Int.toNat_natCast]; omega⟩
  have eg : (rows.set i (⟨true, mixV selB k n0.vars f.vars⟩ : St Span)).getD i n0 = ⟨true, mixV selB k n0.vars f.vars⟩ := by
   simp [List.getD_eq_getElem?_getD, hi]
  have es : setSt k (f.vars.getD k ⟨0, 0⟩) (⟨true, mixV selB k n0.vars f.vars⟩ : St Span) = ⟨true, mixV selB (k + 1) n0.vars f.vars⟩ := by
   unfold setSt; simp only
   rw [← mix_set l0 lf h8 ⟨0, 0⟩]; rfl
  rw [eg, es, List.set_set] at h4
  exact h4
 ·have : k = 8 := by omega
  subst this
  refine hj _ ?_
  have e8 : (⟨true, mixV selB 8 n0.vars f.vars⟩ : St Span) = f := by
   rw [mix_8 l0 lf]
   obtain ⟨fs, fv⟩ := f
   have hfs : fs = true := hfs
   subst hfs
   congr 1
   obtain ⟨y0, y1, y2, y3, y4, y5, y6, y7, rfl⟩ := len8 lf
   rfl
  rw [e8] at h1
  exact h1
theorem RpF.some {C : SvC} {w w1 : World} {a : AS Span} {br rb b6 i : Nat} {rows : List (St Span)} (hc : RpC C w br rb b6) (h : RpF C w a br rb b6 rows w1) (hl : ∀ x ∈ rows, x.vars.length = 8) (hi : i < rows.length) :
 RpF C w a br rb b6 (rows.set i ⟨true, (rows.getD i n0).vars⟩) (put w1 rb (i * 17) (.bool true)) := by
 refine ⟨h.old.put hc.lo, h.sv.loc (vs := [.bool true]) hc.ok hc.l1 hc.l2 hc.l3, by rw [heap_put_ne hc.ne]; exact h.br, ?_, by rw [heap_put_ne hc.n6]; exact h.b6⟩
 rw [heap_put_self, h.rb]
 simp only [Option.map_some, setObj']
 congr 2
 obtain ⟨h1, h2⟩ := fc_split spE (d := n0) hl hi
 unfold fcA
 rw [h1, flat_set _ hi]
 apply Array.toList_inj.1
 have e1 : ∀ x : St Span, stL spE x = .bool x.some :: x.vars.flatMap spE.l := fun _ => rfl
 rw [e1, e1]
 simp only [List.cons_append, Array.toList_setIfInBounds]
 rw [List.set_append_right _ _ (by omega), h2, Nat.sub_self, List.set_cons_zero]
def RpI (C : SvC) (w : World) (a : AS Span) (br rb b6 : Nat) (vs : List Value) (w' : World) : Prop :=
 ∃ i : Nat, vs = [vi i] ∧ i ≤ C.P ∧ RpF C w a br rb b6 (rpR a.facts i) w'
def RpJ (C : SvC) (w : World) (a : AS Span) (br rb b6 i : Nat) (_ : List Value) (w' : World) : Prop := RpI C w a br rb b6 [vi ((i + 1 : Nat) : Int)] w'
def repV (C : SvC) (rb : Nat) : Value := .agg #[.slice (some ⟨rb, 0, none⟩) C.P C.P, .slice (some ⟨C.sb, 0, none⟩) C.S C.S]
end Go.Inv
namespace Go.Inv
open Go.Sh
theorem st_vars {x : St Span} {t : Nat} {f : Nat × Nat} (h : x.vars.length = 8) : blkRow (some (.cells (sA x) t f)) 1 16 = some (.agg (x.vars.flatMap spE.l).toArray) := by
 have := row_mid (p := [.bool x.some]) (q := x.vars.flatMap spE.l) (r := []) (t := t) (f := f) rfl (flat_len (k := 2) (fun _ _ => rfl))
 rw [h] at this
 simpa [sA, stA, stL] using this
theorem SvAt.loc' {C : SvC} (hC : C.Ok) {w : World} {a : AS Span} {q k : Nat} (h : SvAt C w a q) (h1 : k ≠ C.s) (h2 : k ≠ C.fb) (h3 : k ≠ C.sb) (hB : C.B ≤ k) {i : Nat} {vs : List Value} : SvAt C (putL w k i vs) a q :=
 ⟨by rw [heap_putL_ne h1.symm]; exact h.sol, by rw [heap_putL_ne h2.symm]; exact h.fc, by rw [heap_putL_ne h3.symm]; exact h.sc, int_putL hC hB h.st⟩
theorem report_loop {C : SvC} {w w0 : World} {a : AS Span} {br rb b6 : Nat} {E : PanicK} {K : Value → World → Prop} (hc : RpC C w br rb b6) (ha : InvA C.O C.P C.S a) (hP : C.P ≤ 1000000000) (s6 : b6 ≠ C.s ∧ b6 ≠ C.fb ∧ b6 ≠ C.sb ∧ C.B ≤ b6)
 (h0 : RpF C w a br rb b6 (rpR a.facts 0) w0)
 (hK : ∀ w', Old w w' → SvAt C w' a 0 → w'.heap[rb]? = some (.cells (fcA spE a.facts) 54 (0, 0)) → K (repV C rb) w') :
 ∃ (I2 : List Value → World → Prop) (m2 : List Value → World → Nat), I2 [(Value.int IntKind.i64 0)] w0 ∧
   ∀ (e2 : Nat → Value) w2, I2 [e2 70] w2 → (ct_analysis_solve_Span_2 E e2 (vi C.P) I2 m2 w2 (.slice (some ⟨C.fb, 0, none⟩) C.P C.P) (pt br 0) (domV C.sv) (pt b6 0) K) w2 := by
 have l0 := n0_len
 have hl := ha.lens
 have hfl := ha.fl
 refine ⟨RpI C w a br rb b6, UnM C.P, ⟨0, rfl, Nat.zero_le _, h0⟩, ?_⟩
 rintro e2 w1 ⟨i, he, hi, h1⟩
 have e70 : e2 70 = vi i := by simpa using he
 unfold ct_analysis_solve_Span_2
 rw [e70]
 simp only [↓RI, ↓RB, ↓RSs, ↓RT9, ↓RT7, ↓RT, ↓RG, RV]
 refine ⟨RpJ C w a br rb b6 i, ?_, ?_⟩
 ·rintro e3 w2 hJ
  simp only [↓RI, ↓RB, ↓RSs, ↓RT9, ↓RT7, ↓RT, ↓RG, RV, Is.step (show i ≤ 1000000001 by omega)]
  refine ⟨hJ, ?_⟩
  obtain ⟨i', hi', hle, _⟩ := hJ
  have : ((i : Int) + 1) = (i' : Int) := by simpa using hi'
  simp only [UnM, Int.toNat_natCast]; omega
 ·refine condJ (p := i < C.P) (by simp only [decide_eq_decide]; omega) (fun hlt => ?_) (fun hlt => ?_)
  ·have hif : i < a.facts.length := by omega
   have lf := hl _ (mem_getD (d := n0) hif)
   obtain ⟨ho2, c7⟩ := fresh_st w1 (a.facts.getD i n0) lf
   have h2 := h1.old' ho2
   have jz : (w1.alloc (.cells (sA n0) 177)).heap[w1.heap.size]? = some (.cells (sA n0) 177) := heap_alloc_self _
   have hstep := rpR_step a.facts hif
   have hget := rpR_get a.facts hif
   have hrl : ∀ x ∈ rpR a.facts i, x.vars.length = 8 := rpR_lens hl i
   have hrn : i < (rpR a.facts i).length := by rw [rpR_len _ (by omega)]; omega
   have hinv := ha.fi i
   simp only [(rIAf _ _ _ _ hlt).o, ↓RI, ↓RB, ↓RSs, ↓RT9, ↓RT7, ↓RT, ↓RG, RV, Lc, h1.sv.fc, fc_get spE n0 hl hif, jz, stR lf, stR l0, Bool.and_self]
   have lt7 := lt_of_heap h1.rb
   have hne7 : w1.heap.size ≠ rb := by omega
   generalize putL (w1.alloc (.cells (sA n0) 177)) w1.heap.size 0 (sA (a.facts.getD i n0)).toList = w2 at *
   generalize w1.heap.size = b7 at *
   simp only [↓RI, ↓RB, ↓RSs, ↓RT9, ↓RT7, ↓RT, ↓RG, RV, Lc, Lw, c7]
   cases hsm : (a.facts.getD i n0).some with
   | false =>
     simp only [↓RI, ↓RB, ↓RSs, ↓RT9, ↓RT7, ↓RT, ↓RG, RV, Bool.not_false]
     have hn : a.facts.getD i n0 = n0 := hinv.no hsm
     rw [hn] at hstep
     have e : (rpR a.facts i).set i n0 = rpR a.facts i := by
      apply List.ext_getElem?
      intro j
      rw [List.getElem?_set]
      split
      ·rename_i hj; subst hj
       have := hget
       rw [List.getD_eq_getElem?_getD, List.getElem?_eq_getElem hrn] at this
       simp only [Option.getD_some] at this
       rw [List.getElem?_eq_getElem hrn, this]
      ·rfl
     rw [e] at hstep
     refine ⟨i + 1, rfl, by omega, ?_⟩
     rw [← hstep]; exact h2
   | true =>
     have h3 := h2.some hc hrl hrn
     rw [hget] at h3
     have c7' : (put w2 rb (i * 17) (.bool true)).heap[b7]? = some (.cells (sA (a.facts.getD i n0)) tyState (0, 0)) := by rw [heap_put_ne hne7]; exact c7
     have okc : decide (i * 17 < (rpR a.facts i).length * 17) = true := decide_eq_true (by omega)
     simp only [↓RI, ↓RB, ↓RSs, ↓RT9, ↓RT7, ↓RT, ↓RG, RV, Bool.not_true, h2.br, h2.rb, (rIA47 _ _ _ _ hlt).o, fc_size spE hrl, okc, isOne, Bool.and_self]
     generalize put w2 rb (i * 17) (.bool true) = w3 at *
     simp only [↓RI, ↓RB, ↓RSs, ↓RT9, ↓RT7, ↓RT, ↓RG, RV, c7', st_vars lf]
     exact tell_loop (hc := hc) e70 lf hsm hlt hrl hrn h3 fun w' hR => ⟨i + 1, rfl, by omega, by rw [← hstep]; exact hR⟩
  ·have hiP : i = C.P := by omega
   subst hiP
   have e : rpR a.facts C.P = a.facts := by unfold rpR; rw [← hfl]; simp
   rw [e] at h1
   have lrb := lt_of_heap h1.rb
   have e6 : (putL w1 b6 0 [.slice (some ⟨rb, 0, none⟩) C.P C.P, .slice (some ⟨C.sb, 0, none⟩) C.S C.S]).heap[b6]? = some (.cells #[.slice (some ⟨rb, 0, none⟩) C.P C.P, .slice (some ⟨C.sb, 0, none⟩) C.S C.S] 41 (0, 0)) := putSp h1.b6
   simp only [↓rRs ag41, ↓RI, ↓RB, ↓RSs, ↓RT9, ↓RT7, ↓RT, ↓RG, RV, Lc, h1.br, h1.b6, isOne, List.all_cons, List.all_nil, e6]
   exact hK _ (h1.old.putL hc.lo6) (h1.sv.loc' hc.ok s6.1 s6.2.1 s6.2.2.1 s6.2.2.2) (by rw [heap_putL_ne hc.n6.symm]; exact h1.rb)
end Go.Inv
namespace Go.Inv
open Go.Sh
theorem al_49 (w : World) : (sAlloc 41).run pr w = .ok (.value (pt w.heap.size 0)) (w.alloc (.cells #[.slice none 0 0, .slice none 0 0] 41)) := by kernel_rfl
theorem bd_49 (a b : Option Addr) (m n c d : Nat) (w : World) : (sBuild 41 [(0, .slice a m c), (1, .slice b n d)]).run pr w = .ok (.value (.agg #[.slice a m c, .slice b n d])) w := by kernel_rfl
theorem bd_first (w : World) : (sBuild 177 [(0, .bool true)]).run pr w = .ok (.value (.agg (sA ⟨true, n0.vars⟩))) w := by kernel_rfl
theorem bd_solver (sv : Value) (a b c d : Int) (t : Bool) (x y : Option Addr) (m n k l : Nat) (w : World) : (sBuild 174 [(0, domV sv), (1, .agg #[vi a, vi b, vi c, vi d, .bool t]), (2, .slice x m k), (3, .slice y n l)]).run pr w =
 .ok (.value (.agg #[domV sv, vi a, vi b, vi c, vi d, .bool t, .slice x m k, .slice y n l, vi 0])) w := by kernel_rfl
theorem rAl49 : ∀ E w K, o pr E w (sAlloc 41) K = K (pt w.heap.size 0) (w.alloc (.cells #[.slice none 0 0, .slice none 0 0] 41)) := fun _ w _ => o_val (al_49 w)
theorem rBd49 : ∀ k a b m n c d, oz pr (sBuild 41 [(0, .slice a m c), (1, .slice b n d)]) k = k (.agg #[.slice a m c, .slice b n d]) := fun _ a b m n c d => oz_val (bd_49 a b m n c d)
theorem rBdFst : ∀ E w K, o pr E w (sBuild 177 [(0, .bool true)]) K = K (.agg (sA ⟨true, n0.vars⟩)) w := fun _ w _ => o_val (bd_first w)
theorem rBdSol : ∀ k sv a b c d t x y m n i l, oz pr (sBuild 174 [(0, domV sv), (1, .agg #[vi a, vi b, vi c, vi d, .bool t]), (2, .slice x m i), (3, .slice y n l)]) k = k (.agg #[domV sv, vi a, vi b, vi c, vi d, .bool t, .slice x m i, .slice y n l, vi 0]) :=
 fun _ sv a b c d t x y m n i l => oz_val (bd_solver sv a b c d t x y m n i l)
def RV9 := And.intro rAl49 <| And.intro rBd49 <| And.intro rBdFst <| And.intro rBdSol (rRs ag41)
theorem row5all (a b c d e : Value) (t : Nat) (f : Nat × Nat) : blkRow (some (.cells #[a, b, c, d, e] t f)) 0 5 = some (.agg #[a, b, c, d, e]) := rfl
def SoP (w : World) (P S : Nat) (a : AS Span) : Ending → World → Prop := fun e w' => ∃ rb sb, e = .returned (.agg #[.slice (some ⟨rb, 0, none⟩) P P, .slice (some ⟨sb, 0, none⟩) S S]) ∧ Old w w' ∧
 w'.heap[rb]? = some (.cells (fcA spE a.facts) 54 (0, 0)) ∧ w'.heap[sb]? = some (.cells (a.sites.map fun n : Nat => vi n).toArray 3 (0, 0))
theorem arms5 {A : Prop} (F : Nat → Nat → Nat → Nat → World → Prop) (G : Nat → Nat → Nat → Nat → World → Prop) (h : (∀ a b c d w, F a b c d w → G a b c d w) → A) (t : ∀ a b c d w, F a b c d w → G a b c d w) : A := h t
structure SoF (w : World) (P S : Nat) (d : Int) (thr : Bool) (cfg : Cfg) (sv : Value) (steps : List Int) (s fb sb b8 : Nat) (w' : World) : Prop where
 old : Old w w'
 ls : w.heap.size + 1 < s
 lf : w.heap.size + 1 < fb
 lb : w.heap.size + 1 < sb
 l8 : s < b8 ∧ fb < b8 ∧ sb < b8
 nf : s ≠ fb
 nb : s ≠ sb
 fb' : fb ≠ sb
 b6 : w'.heap[w.heap.size + 1]? = some (.cells #[.slice none 0 0, .slice none 0 0] 41 (0, 0))
 sol : w'.heap[s]? = some (.cells #[domV sv, vi d, vi cfg.delay, vi cfg.narrow, vi cfg.unroll, .bool thr, .slice (some ⟨fb, 0, none⟩) P P, .slice (some ⟨sb, 0, none⟩) S S, vi 0] tySolver (0, 0))
 fc : w'.heap[fb]? = some (.cells (fcA spE (List.replicate P n0)) tyState (0, 0))
 sc : w'.heap[sb]? = some (.cells (((List.replicate S 0).map fun n : Nat => vi n).toArray) 3 (0, 0))
 st : w'.heap[b8]? = some (.cells (sA ⟨true, n0.vars⟩) tyState (0, 0))
theorem SoF.mk' {w wB : World} {P S : Nat} {d : Int} {thr : Bool} {cfg : Cfg} {sv : Value} {steps : List Int} {fb sb : Nat} (ho : Old w wB) (lf : w.heap.size + 1 < fb) (lb : w.heap.size + 1 < sb) (hfb : fb < wB.heap.size) (hsb : sb < wB.heap.size) (hne : fb ≠ sb)
 (b6 : wB.heap[w.heap.size + 1]? = some (.cells #[.slice none 0 0, .slice none 0 0] 41 (0, 0))) (fc : wB.heap[fb]? = some (.cells (fcA spE (List.replicate P n0)) tyState (0, 0))) (sc : wB.heap[sb]? = some (.cells (((List.replicate S 0).map fun n : Nat => vi n).toArray) 3 (0, 0))) :
 SoF w P S d thr cfg sv steps wB.heap.size fb sb (wB.heap.size + 1) (putL ((wB.alloc (.cells #[domV sv, vi d, vi cfg.delay, vi cfg.narrow, vi cfg.unroll, .bool thr, .slice (some ⟨fb, 0, none⟩) P P, .slice (some ⟨sb, 0, none⟩) S S, vi 0] tySolver)).alloc (.cells (sA n0) 177)) (wB.heap.size + 1) 0 (sA ⟨true, n0.vars⟩).toList) := by
 have hs := ho.size
 have l1 : (⟨true, n0.vars⟩ : St Span).vars.length = 8 := rfl
 refine ⟨?_, by omega, lf, lb, by omega, by omega, by omega, hne, ?_, ?_, ?_, ?_, ?_⟩
 ·(repeat (first | with_reducible assumption | with_reducible refine Old.putL (by (first | omega | (simp only [size_alloc, size_putL]; done) | (simp only [size_alloc, size_putL]; omega))) ?_ | with_reducible refine Old.alloc ?_ _))
 ·(repeat (first | with_reducible assumption | with_reducible exact heap_alloc_at (by (first | omega | (simp only [size_alloc, size_putL]; done) | (simp only [size_alloc, size_putL]; omega))) | with_reducible refine (heap_alloc_ne (by (first | omega | (simp only [size_alloc, size_putL]; done) | (simp only [size_alloc, size_putL]; omega)))).trans ?_ | with_reducible refine (heap_putL_ne (by (first | omega | (simp only [size_alloc, size_putL]; done) | (simp only [size_alloc, size_putL]; omega))) _ _ _).trans ?_ | with_reducible apply putSp))
 ·(repeat (first | with_reducible assumption | with_reducible exact heap_alloc_at (by (first | omega | (simp only [size_alloc, size_putL]; done) | (simp only [size_alloc, size_putL]; omega))) | with_reducible refine (heap_alloc_ne (by (first | omega | (simp only [size_alloc, size_putL]; done) | (simp only [size_alloc, size_putL]; omega)))).trans ?_ | with_reducible refine (heap_putL_ne (by (first | omega | (simp only [size_alloc, size_putL]; done) | (simp only [size_alloc, size_putL]; omega))) _ _ _).trans ?_ | with_reducible apply putSp))
 ·(repeat (first | with_reducible assumption | with_reducible exact heap_alloc_at (by (first | omega | (simp only [size_alloc, size_putL]; done) | (simp only [size_alloc, size_putL]; omega))) | with_reducible refine (heap_alloc_ne (by (first | omega | (simp only [size_alloc, size_putL]; done) | (simp only [size_alloc, size_putL]; omega)))).trans ?_ | with_reducible refine (heap_putL_ne (by (first | omega | (simp only [size_alloc, size_putL]; done) | (simp only [size_alloc, size_putL]; omega))) _ _ _).trans ?_ | with_reducible apply putSp))
 ·(repeat (first | with_reducible assumption | with_reducible exact heap_alloc_at (by (first | omega | (simp only [size_alloc, size_putL]; done) | (simp only [size_alloc, size_putL]; omega))) | with_reducible refine (heap_alloc_ne (by (first | omega | (simp only [size_alloc, size_putL]; done) | (simp only [size_alloc, size_putL]; omega)))).trans ?_ | with_reducible refine (heap_putL_ne (by (first | omega | (simp only [size_alloc, size_putL]; done) | (simp only [size_alloc, size_putL]; omega))) _ _ _).trans ?_ | with_reducible apply putSp))
 ·(repeat (first | (first | with_reducible assumption | with_reducible exact heap_alloc_at (by (first | omega | (simp only [size_alloc, size_putL]; done) | (simp only [size_alloc, size_putL]; omega))) | with_reducible refine (heap_alloc_ne (by (first | omega | (simp only [size_alloc, size_putL]; done) | (simp only [size_alloc, size_putL]; omega)))).trans ?_ | with_reducible refine (heap_putL_ne (by (first | omega | (simp only [size_alloc, size_putL]; done) | (simp only [size_alloc, size_putL]; omega))) _ _ _).trans ?_ | with_reducible apply putSp) | with_reducible refine putSn (by assumption) ?_))
theorem rpf_mk' {C : SvC} (hC : C.Ok) {w wB : World} {a : AS Span} {br rb : Nat} (ho : Old w wB) (hs : SvAt C wB a 0) (hfl : a.facts.length = C.P) (h1 : C.s < br ∧ C.fb < br ∧ C.sb < br) (h2 : C.s < rb ∧ C.fb < rb ∧ C.sb < rb) (hbr : w.heap.size + 1 < br) (hrb : w.heap.size + 1 < rb) (hne : br ≠ rb)
 (b6 : wB.heap[w.heap.size + 1]? = some (.cells #[.slice none 0 0, .slice none 0 0] 41 (0, 0))) (cb : wB.heap[br]? = some (.cells #[.slice none 0 0, .slice none 0 0] 41 (0, 0))) (cr : wB.heap[rb]? = some (.cells (fcA spE (List.replicate C.P n0)) 54 (0, 0))) :
 RpF C w a br rb (w.heap.size + 1) (rpR a.facts 0) (putL wB br 0 [.slice (some ⟨rb, 0, none⟩) C.P C.P, .slice (some ⟨C.sb, 0, none⟩) C.S C.S]) ∧ RpC C w br rb (w.heap.size + 1) := by
 have e : rpR a.facts 0 = List.replicate C.P n0 := by unfold rpR; simp [hfl]
 refine ⟨⟨ho.putL (by omega), hs.loc hC h1.1 h1.2.1 h1.2.2, putSp cb, by rw [heap_putL_ne hne.symm, e]; exact cr, by rw [heap_putL_ne (by omega)]; exact b6⟩, ⟨hC, hne, by omega, by omega, by omega, h2.1, h2.2.1, h2.2.2⟩⟩
theorem FrS.toOld {C : SvC} {w w1 w2 : World} (ho : Old w w1) (hf : FrS C w1 w2) (h1 : w.heap.size ≤ C.s) (h2 : w.heap.size ≤ C.fb) (h3 : w.heap.size ≤ C.sb) : Old w w2 :=
 ⟨Nat.le_trans ho.size hf.size, fun c hc => by have := ho.size; rw [hf.old c (by omega) (by omega) (by omega) (by omega)]; exact ho.old c hc, ho.out.trans hf.out⟩
theorem set_zero {k : Nat} (hk : k < 8) : setSt k (⟨0, 0⟩ : Span) (⟨true, n0.vars⟩ : St Span) = ⟨true, n0.vars⟩ := by
 match k, hk with
 | 0, _ => rfl
 | 1, _ => rfl
 | 2, _ => rfl
 | 3, _ => rfl
 | 4, _ => rfl
 | 5, _ => rfl
 | 6, _ => rfl
 | 7, _ => rfl
structure FsF (C : SvC) (w : World) (a : AS Span) (b8 : Nat) (x : St Span) (w' : World) : Prop where
 old : Old w w'
 sv : SvAt C w' a 0
 b6 : w'.heap[w.heap.size + 1]? = some (.cells #[.slice none 0 0, .slice none 0 0] 41 (0, 0))
 b8 : w'.heap[b8]? = some (.cells (sA x) tyState (0, 0))
def FsI (C : SvC) (w : World) (a : AS Span) (b8 : Nat) (x : St Span) (vs : List Value) (w' : World) : Prop := ∃ k : Nat, vs = [vi k] ∧ k ≤ 8 ∧ FsF C w a b8 x w'
theorem solve_walk {w : World} {pb gas : Nat} {p : Prog} {bv nv : Value} {xs : List Value} {d : Int} {thr : Bool} {cfg : Cfg} {sv : Value} {steps : List Int} {a : AS Span} (hg : ProgG p) (hP : p.points ≤ 1000000000) (hS : p.sites ≤ 1000000000) (hsz : szLs p.body ≤ 1000000000) (hgas : gas ≤ 1000000000)
 (hcf : cfg.unroll ≤ 1000 ∧ cfg.narrow ≤ 1000 ∧ cfg.delay ≤ 1000) (hn : w.heap[pb]? = some (.cells #[bv, vi p.points, vi p.sites, nv] tyProg (0, 0))) (hrow : RowP (Bel w.heap.size) w bv xs) (hsts : StsP (Bel w.heap.size) w xs p.body)
 (hst : IntsAt w sv steps) (hlen : steps.length ≤ 1000000) (hone : isOne sv = true) (hown : ∀ k, sv.ownBlock = some k → k < w.heap.size) (hr : solveA (spans steps) cfg gas p = some a) :
 Calls pr n_analysis_solve_Span #[pt pb 0, .agg #[vi d, vi cfg.delay, vi cfg.narrow, vi cfg.unroll, .bool thr], domV sv] w (SoP w p.points p.sites a) := by
 refine sh_analysis_solve_Span_ok _ _ _ _ _ ?_
 unfold sh_analysis_solve_Span
 have l0 := n0_len
 have ltp := lt_of_heap hn
 have ho : Old w ((w.alloc (.cells #[vi d, vi cfg.delay, vi cfg.narrow, vi cfg.unroll, .bool thr] 26)).alloc (.cells #[.slice none 0 0, .slice none 0 0] 41)) := by
  have := Old.refl w
  (repeat (first | with_reducible assumption | with_reducible refine Old.putL (by (first | omega | (simp only [size_alloc, size_putL]; done) | (simp only [size_alloc, size_putL]; omega))) ?_ | with_reducible refine Old.alloc ?_ _))
 have b4 : ((w.alloc (.cells #[vi d, vi cfg.delay, vi cfg.narrow, vi cfg.unroll, .bool thr] 26)).alloc (.cells #[.slice none 0 0, .slice none 0 0] 41)).heap[w.heap.size]? = some (.cells #[vi d, vi cfg.delay, vi cfg.narrow, vi cfg.unroll, .bool thr] 26 (0, 0)) := by (repeat (first | with_reducible assumption | with_reducible exact heap_alloc_at (by (first | omega | (simp only [size_alloc, size_putL]; done) | (simp only [size_alloc, size_putL]; omega))) | with_reducible refine (heap_alloc_ne (by (first | omega | (simp only [size_alloc, size_putL]; done) | (simp only [size_alloc, size_putL]; omega)))).trans ?_ | with_reducible refine (heap_putL_ne (by (first | omega | (simp only [size_alloc, size_putL]; done) | (simp only [size_alloc, size_putL]; omega))) _ _ _).trans ?_ | with_reducible apply putSp))
 have b6 : ((w.alloc (.cells #[vi d, vi cfg.delay, vi cfg.narrow, vi cfg.unroll, .bool thr] 26)).alloc (.cells #[.slice none 0 0, .slice none 0 0] 41)).heap[w.heap.size + 1]? = some (.cells #[.slice none 0 0, .slice none 0 0] 41 (0, 0)) := by (repeat (first | with_reducible assumption | with_reducible exact heap_alloc_at (by (first | omega | (simp only [size_alloc, size_putL]; done) | (simp only [size_alloc, size_putL]; omega))) | with_reducible refine (heap_alloc_ne (by (first | omega | (simp only [size_alloc, size_putL]; done) | (simp only [size_alloc, size_putL]; omega)))).trans ?_ | with_reducible refine (heap_putL_ne (by (first | omega | (simp only [size_alloc, size_putL]; done) | (simp only [size_alloc, size_putL]; omega))) _ _ _).trans ?_ | with_reducible apply putSp))
 have hz : ((w.alloc (.cells #[vi d, vi cfg.delay, vi cfg.narrow, vi cfg.unroll, .bool thr] 26)).alloc (.cells #[.slice none 0 0, .slice none 0 0] 41)).heap.size = w.heap.size + 2 := by rw [size_alloc, size_alloc]
 simp only [↓RV9, ↓RI, ↓RB, ↓RSs, ↓RT9, ↓RT7, ↓RT, ↓RG, RV, agg_cells, size_alloc]
 generalize ((w.alloc (.cells #[vi d, vi cfg.delay, vi cfg.narrow, vi cfg.unroll, .bool thr] 26)).alloc (.cells #[.slice none 0 0, .slice none 0 0] 41)) = w1 at *
 have n1 := ho.heap hn
 simp only [↓RV9, ↓RI, ↓RB, ↓RSs, ↓RT9, ↓RT7, ↓RT, ↓RG, RV, b4, row5all, n1, ↓o_val (mk_states hP _), ↓o_val (mk_ints hS _)]
 apply arms5 (SoF w p.points p.sites d thr cfg sv steps)
 ·intro tail
  refine ⟨?_, ?_⟩
  ·have hoA := (Old.refl (Sh.dr w1)).alloc (.cells (fcA spE (List.replicate p.points n0)) 177)
   have nA := hoA.heap (show (Sh.dr w1).heap[pb]? = _ from n1)
   have cA := hoA.heap (show (Sh.dr w1).heap[w.heap.size]? = _ from b4)
   have dA := hoA.heap (show (Sh.dr w1).heap[w.heap.size + 1]? = _ from b6)
   have fA : ((Sh.dr w1).alloc (.cells (fcA spE (List.replicate p.points n0)) 177)).heap[w1.heap.size]? = some (.cells (fcA spE (List.replicate p.points n0)) 177) := heap_alloc_self (w := Sh.dr w1) _
   have hzA : ((Sh.dr w1).alloc (.cells (fcA spE (List.replicate p.points n0)) 177)).heap.size = w1.heap.size + 1 := size_alloc _
   have hoA' := ho.trans hoA.ofDr
   generalize (Sh.dr w1).alloc (.cells (fcA spE (List.replicate p.points n0)) 177) = wA at *
   have hoB := (Old.refl wA).alloc (.cells (((List.replicate p.sites 0).map fun m : Nat => vi m).toArray) 3)
   have nB := hoB.heap nA
   have cB := hoB.heap cA
   have dB := hoB.heap dA
   have fB := hoB.heap fA
   have sB : (wA.alloc (.cells (((List.replicate p.sites 0).map fun m : Nat => vi m).toArray) 3)).heap[wA.heap.size]? = some (.cells (((List.replicate p.sites 0).map fun m : Nat => vi m).toArray) 3) := heap_alloc_self _
   have hzB : (wA.alloc (.cells (((List.replicate p.sites 0).map fun m : Nat => vi m).toArray) 3)).heap.size = wA.heap.size + 1 := size_alloc _
   have hoB' := hoA'.trans hoB
   generalize wA.alloc (.cells (((List.replicate p.sites 0).map fun m : Nat => vi m).toArray) 3) = wB at *
   have hF := SoF.mk' (P := p.points) (S := p.sites) (d := d) (thr := thr) (cfg := cfg) (sv := sv) (steps := steps) hoB' (by omega) (by omega) (lt_of_heap fB) (lt_of_heap sB) (by omega) dB fB sB
   have e8 : ((wB.alloc (.cells #[domV sv, vi d, vi cfg.delay, vi cfg.narrow, vi cfg.unroll, .bool thr, .slice (some ⟨w1.heap.size, 0, none⟩) p.points p.points, .slice (some ⟨wA.heap.size, 0, none⟩) p.sites p.sites, vi 0] tySolver)).alloc (.cells (sA n0) 177)).heap[wB.heap.size + 1]? = some (.cells (sA n0) 177) := by (repeat (first | with_reducible assumption | with_reducible exact heap_alloc_at (by (first | omega | (simp only [size_alloc, size_putL]; done) | (simp only [size_alloc, size_putL]; omega))) | with_reducible refine (heap_alloc_ne (by (first | omega | (simp only [size_alloc, size_putL]; done) | (simp only [size_alloc, size_putL]; omega)))).trans ?_ | with_reducible refine (heap_putL_ne (by (first | omega | (simp only [size_alloc, size_putL]; done) | (simp only [size_alloc, size_putL]; omega))) _ _ _).trans ?_ | with_reducible apply putSp))
   have l1 : (⟨true, n0.vars⟩ : St Span).vars.length = 8 := rfl
   simp only [↓RV9, ↓RI, ↓RB, ↓RSs, ↓RT9, ↓RT7, ↓RT, ↓RG, RV, nA, nB, cA, cB, row5all, agg_cells, e8, stR l1, stR l0, Bool.and_self]
   generalize putL ((wB.alloc (.cells #[domV sv, vi d, vi cfg.delay, vi cfg.narrow, vi cfg.unroll, .bool thr, .slice (some ⟨w1.heap.size, 0, none⟩) p.points p.points, .slice (some ⟨wA.heap.size, 0, none⟩) p.sites p.sites, vi 0] tySolver)).alloc (.cells (sA n0) 177)) (wB.heap.size + 1) 0 (sA ⟨true, n0.vars⟩).toList = w5 at hF ⊢
   generalize wB.heap.size + 1 = x8 at hF ⊢
   generalize wB.heap.size = xs' at hF ⊢
   generalize wA.heap.size = xb at hF ⊢
   generalize w1.heap.size = xf at hF ⊢
   exact tail xs' xf xb x8 w5 hF
  ·have hoA := (Old.refl (Sh.dr w1)).alloc (.cells (((List.replicate p.sites 0).map fun m : Nat => vi m).toArray) 3)
   have nA := hoA.heap (show (Sh.dr w1).heap[pb]? = _ from n1)
   have cA := hoA.heap (show (Sh.dr w1).heap[w.heap.size]? = _ from b4)
   have dA := hoA.heap (show (Sh.dr w1).heap[w.heap.size + 1]? = _ from b6)
   have fA : ((Sh.dr w1).alloc (.cells (((List.replicate p.sites 0).map fun m : Nat => vi m).toArray) 3)).heap[w1.heap.size]? = some (.cells (((List.replicate p.sites 0).map fun m : Nat => vi m).toArray) 3) := heap_alloc_self (w := Sh.dr w1) _
   have hzA : ((Sh.dr w1).alloc (.cells (((List.replicate p.sites 0).map fun m : Nat => vi m).toArray) 3)).heap.size = w1.heap.size + 1 := size_alloc _
   have hoA' := ho.trans hoA.ofDr
   generalize (Sh.dr w1).alloc (.cells (((List.replicate p.sites 0).map fun m : Nat => vi m).toArray) 3) = wA at *
   have hoB := (Old.refl wA).alloc (.cells (fcA spE (List.replicate p.points n0)) 177)
   have nB := hoB.heap nA
   have cB := hoB.heap cA
   have dB := hoB.heap dA
   have fB := hoB.heap fA
   have sB : (wA.alloc (.cells (fcA spE (List.replicate p.points n0)) 177)).heap[wA.heap.size]? = some (.cells (fcA spE (List.replicate p.points n0)) 177) := heap_alloc_self _
   have hzB : (wA.alloc (.cells (fcA spE (List.replicate p.points n0)) 177)).heap.size = wA.heap.size + 1 := size_alloc _
   have hoB' := hoA'.trans hoB
   generalize wA.alloc (.cells (fcA spE (List.replicate p.points n0)) 177) = wB at *
   have hF := SoF.mk' (P := p.points) (S := p.sites) (d := d) (thr := thr) (cfg := cfg) (sv := sv) (steps := steps) hoB' (by omega) (by omega) (lt_of_heap sB) (lt_of_heap fB) (by omega) dB sB fB
   have e8 : ((wB.alloc (.cells #[domV sv, vi d, vi cfg.delay, vi cfg.narrow, vi cfg.unroll, .bool thr, .slice (some ⟨wA.heap.size, 0, none⟩) p.points p.points, .slice (some ⟨w1.heap.size, 0, none⟩) p.sites p.sites, vi 0] tySolver)).alloc (.cells (sA n0) 177)).heap[wB.heap.size + 1]? = some (.cells (sA n0) 177) := by (repeat (first | with_reducible assumption | with_reducible exact heap_alloc_at (by (first | omega | (simp only [size_alloc, size_putL]; done) | (simp only [size_alloc, size_putL]; omega))) | with_reducible refine (heap_alloc_ne (by (first | omega | (simp only [size_alloc, size_putL]; done) | (simp only [size_alloc, size_putL]; omega)))).trans ?_ | with_reducible refine (heap_putL_ne (by (first | omega | (simp only [size_alloc, size_putL]; done) | (simp only [size_alloc, size_putL]; omega))) _ _ _).trans ?_ | with_reducible apply putSp))
   have l1 : (⟨true, n0.vars⟩ : St Span).vars.length = 8 := rfl
   simp only [↓RV9, ↓RI, ↓RB, ↓RSs, ↓RT9, ↓RT7, ↓RT, ↓RG, RV, nA, nB, cA, cB, row5all, agg_cells, e8, stR l1, stR l0, Bool.and_self]
   exact tail _ _ _ _ _ hF
 ·rintro bs fb sb b8 w2 hF
  let C : SvC := ⟨w.heap.size, bs, fb, sb, p.points, p.sites, d, thr, cfg, sv, steps⟩
  have hC : C.Ok := ⟨hF.nf, hF.nb, hF.fb', (show w.heap.size ≤ bs by have := hF.ls; omega), (show w.heap.size ≤ fb by have := hF.lf; omega), (show w.heap.size ≤ sb by have := hF.lb; omega), hlen, hone, hown⟩
  have hsv : SvAt C w2 (as0 (spans steps) p) 0 := ⟨hF.sol, hF.fc, hF.sc, hst.old hF.old⟩
  have l1 : (⟨true, n0.vars⟩ : St Span).vars.length = 8 := rfl
  have hls := hF.ls
  have hlf := hF.lf
  have hlb := hF.lb
  have hl8 := hF.l8
  refine ⟨FsI C w (as0 (spans steps) p) b8 ⟨true, n0.vars⟩, UnM 8, ⟨0, rfl, by omega, ⟨hF.old, hsv, hF.b6, hF.st⟩⟩, ?_⟩
  clear hF hsv
  rintro e1 w3 ⟨k, he, hk, h3⟩
  have e31 : e1 31 = vi k := by simpa using he
  unfold ct_analysis_solve_Span_3
  rw [e31]
  simp only [↓RV9, ↓RI, ↓RB, ↓RSs, ↓RT9, ↓RT7, ↓RT, ↓RG, RV]
  refine condJ (p := k < 8) (by simp only [decide_eq_decide]; omega) (fun h8 => ?_) (fun h8 => ?_)
  ·refine cl_of (only_ok _ _ _) ?_
   rintro e w4 ⟨rfl, ho4⟩
   have c8 := ho4.heap h3.b8
   simp only [endK, ↓RV9, ↓RI, ↓RB, ↓RSs, ↓RT9, ↓RT7, ↓RT, ↓RG, RV, Lc, (rIAv _ _ h8).o, c8, varR l1 h8, List.all_cons, List.all_nil, Is.step (show k ≤ 1000000001 by omega)]
   refine ⟨⟨k + 1, rfl, by omega, ⟨(h3.old.trans ho4).putL (by omega), (h3.sv.old ho4).loc hC hl8.1 hl8.2.1 hl8.2.2, by rw [heap_putL_ne (by omega)]; exact ho4.heap h3.b6, ?_⟩⟩, by simp only [UnM, Int.toNat_natCast]; omega⟩
   have := (varR l1 h8).2.2 ⟨0, 0⟩ tyState (0, 0)
   rw [get_putL, if_pos rfl, c8, this, set_zero h8]
  ·have n3 := h3.old.heap hn
   have hbody : StmtsG C.P C.S p.body := hg.body.mono (Nat.le_refl _) (by show p.points - 1 ≤ p.points; omega)
   have ha0 : InvA C.O C.P C.S (as0 (spans steps) p) := as0_inv p
   have hf0 : InvS C.O (⟨true, n0.vars⟩ : St Span) := first_inv (D := C.D)
   unfold solveA at hr
   obtain ⟨⟨ed, a1⟩, hl⟩ : ∃ r, listA (spans steps) cfg gas true p.body (first (spans steps)) (as0 (spans steps) p) = some r := by
    cases hl : listA (spans steps) cfg gas true p.body (first (spans steps)) (as0 (spans steps) p) with
    | none => rw [hl] at hr; cases hr
    | some r => exact ⟨r, rfl⟩
   rw [hl] at hr
   simp only [Option.some.injEq] at hr
   have hPd := list_sound (O := C.O) p.body true (first (spans steps)) (as0 (spans steps) p) ed a1 hbody hf0 ha0 hl
   have lE := hPd.inv.len
   have LS : ∀ w', SvAt C w' (as0 (spans steps) p) 0 → Old w w' → Calls pr n_sv_list #[pt bs 0, bv, stVl ⟨true, n0.vars⟩] w' (SvP C w' 0 (stVl ed) a1) := fun w' hs hoo =>
    slist_all hC hgas hcf p.body 0 w' bv xs ⟨true, n0.vars⟩ (as0 (spans steps) p) ed a1 hbody (by omega) hs ha0 hf0 (hrow.frS hC hoo.frS) (hsts.keep' (fun _ hc _ => hc) (hoo.frS.keepP hC) hoo.keepS) hl
   simp only [↓RV9, ↓RI, ↓RB, ↓RSs, ↓RT9, ↓RT7, ↓RT, ↓RG, RV, Lc, n3, h3.b8, stR l1]
   apply arms1 (FsF C w a1 · ed)
   ·intro tail
    refine ⟨?_, ?_⟩
    ·refine cl_of (LS _ h3.sv.dr h3.old.dr) ?_
     rintro e w4 ⟨rfl, hf4, hs4⟩
     have hf4 := hf4.ofDr
     have ho4 := hf4.toOld h3.old (by show w.heap.size ≤ bs; omega) (by show w.heap.size ≤ fb; omega) (by show w.heap.size ≤ sb; omega)
     have d6 := hf4.heap h3.b6 (by show _ ≠ bs; omega) (by show _ ≠ fb; omega) (by show _ ≠ sb; omega)
     obtain ⟨ho5, c13⟩ := fresh_st w4 ed lE
     have jz : (w4.alloc (.cells (sA n0) 177)).heap[w4.heap.size]? = some (.cells (sA n0) 177) := heap_alloc_self _
     have hF : FsF C w a1 w4.heap.size ed (putL (w4.alloc (.cells (sA n0) 177)) w4.heap.size 0 (sA ed).toList) := ⟨ho4.trans ho5, hs4.old ho5, ho5.heap d6, c13⟩
     simp only [endK, ↓RV9, ↓RI, ↓RB, ↓RSs, ↓RT9, ↓RT7, ↓RT, ↓RG, RV, Lc, jz, stR lE, stR l0, Bool.and_self]
     generalize putL (w4.alloc (.cells (sA n0) 177)) w4.heap.size 0 (sA ed).toList = w5 at hF ⊢
     generalize w4.heap.size = b13 at hF ⊢
     exact tail b13 w5 hF
    ·have hoA := (Old.refl (Sh.dr w3)).alloc (.cells (sA n0) 177)
     have c8 := hoA.heap (show (Sh.dr w3).heap[b8]? = _ from h3.b8)
     have nA := hoA.heap (show (Sh.dr w3).heap[pb]? = _ from n3)
     have d6 := hoA.heap (show (Sh.dr w3).heap[w.heap.size + 1]? = _ from h3.b6)
     have jz : ((Sh.dr w3).alloc (.cells (sA n0) 177)).heap[w3.heap.size]? = some (.cells (sA n0) 177) := heap_alloc_self (w := Sh.dr w3) _
     have hsA := h3.sv.dr.old hoA
     have hoA' := h3.old.dr.trans hoA
     have lt3 := lt_of_heap h3.b8
     generalize (Sh.dr w3).alloc (.cells (sA n0) 177) = w4 at *
     simp only [endK, ↓RV9, ↓RI, ↓RB, ↓RSs, ↓RT9, ↓RT7, ↓RT, ↓RG, RV, Lc, nA, c8, stR l1]
     refine cl_of (LS _ hsA hoA') ?_
     rintro e w5 ⟨rfl, hf5, hs5⟩
     have ho5 := hf5.toOld hoA' (by show w.heap.size ≤ bs; omega) (by show w.heap.size ≤ fb; omega) (by show w.heap.size ≤ sb; omega)
     have kz := hf5.heap jz (by show _ ≠ bs; omega) (by show _ ≠ fb; omega) (by show _ ≠ sb; omega)
     have k6 := hf5.heap d6 (by show _ ≠ bs; omega) (by show _ ≠ fb; omega) (by show _ ≠ sb; omega)
     simp only [endK, ↓RV9, ↓RI, ↓RB, ↓RSs, ↓RT9, ↓RT7, ↓RT, ↓RG, RV, Lc, kz, stR lE, stR l0, Bool.and_self]
     refine tail _ _ ?_
     exact ⟨ho5.putL (by omega), hs5.loc hC (by show bs < _; omega) (by show fb < _; omega) (by show sb < _; omega), by rw [heap_putL_ne (by omega)]; exact k6, putSn lE kz⟩
   ·intro b13 w4 h4
    have n4 := h4.old.heap hn
    have hwm : IntKind.i64.wrap ((p.points : Int) - 1) = ((p.points - 1 : Nat) : Int) := by have := hg.pos; rw [wrap64 (by omega) (by omega)]; omega
    simp only [endK, ↓RV9, ↓RI, ↓RB, ↓RSs, ↓RT9, ↓RT7, ↓RT, ↓RG, RV, Lc, n4, hwm, h4.b8, stR lE]
    refine cl_of (come_ok' hC h4.sv.dr hPd.invA hPd.inv (by have := hg.pos; show p.points - 1 < p.points; omega)) ?_
    rintro e w5 ⟨rfl, hf5, hs5⟩
    have hf5 := hf5.ofDr
    have hE : comeA C.D (rcd 0) (p.points - 1) ed a1 = a := hr
    rw [hE] at hs5
    have haE : InvA C.O C.P C.S a := by rw [← hE]; exact come_inv hPd.inv hPd.invA
    have ho5 := hf5.toOld h4.old (by show w.heap.size ≤ bs; omega) (by show w.heap.size ≤ fb; omega) (by show w.heap.size ≤ sb; omega)
    have d6 := hf5.heap h4.b6 (by show _ ≠ bs; omega) (by show _ ≠ fb; omega) (by show _ ≠ sb; omega)
    have n5 := ho5.heap hn
    have s5 : w5.heap[bs]? = some (.cells #[domV sv, vi d, vi cfg.delay, vi cfg.narrow, vi cfg.unroll, .bool thr, .slice (some ⟨fb, 0, none⟩) p.points p.points, .slice (some ⟨sb, 0, none⟩) p.sites p.sites, vi 0] tySolver (0, 0)) := hs5.sol
    simp only [endK, ↓RV9, ↓RI, ↓RB, ↓RSs, ↓RT9, ↓RT7, ↓RT, ↓RG, RV, Lc, GE, n5, s5, ↓o_val (mk_facts hP _)]
    apply arms2 (fun br rb w' => RpF C w a br rb (w.heap.size + 1) (rpR a.facts 0) w' ∧ RpC C w br rb (w.heap.size + 1))
    ·intro tail
     have lt5 := hs5.ls
     have lt51 : bs < w5.heap.size ∧ fb < w5.heap.size ∧ sb < w5.heap.size := lt5
     have lt6 := lt_of_heap d6
     refine ⟨?_, ?_⟩
     ·have hoA := (Old.refl (Sh.dr w5)).alloc (.cells (fcA spE (List.replicate p.points n0)) 54)
      have sA := hoA.heap (show (Sh.dr w5).heap[bs]? = _ from s5)
      have nA := hoA.heap (show (Sh.dr w5).heap[pb]? = _ from n5)
      have dA := hoA.heap (show (Sh.dr w5).heap[w.heap.size + 1]? = _ from d6)
      have xA : ((Sh.dr w5).alloc (.cells (fcA spE (List.replicate p.points n0)) 54)).heap[w5.heap.size]? = some (.cells (fcA spE (List.replicate p.points n0)) 54) := heap_alloc_self (w := Sh.dr w5) _
      have hzA : ((Sh.dr w5).alloc (.cells (fcA spE (List.replicate p.points n0)) 54)).heap.size = w5.heap.size + 1 := size_alloc _
      have hsA := hs5.dr.old hoA
      have hoA' := ho5.dr.trans hoA
      generalize (Sh.dr w5).alloc (.cells (fcA spE (List.replicate p.points n0)) 54) = wA at *
      have hoB := (Old.refl wA).alloc (.cells #[.slice none 0 0, .slice none 0 0] 41)
      have sB := hoB.heap sA
      have dB := hoB.heap dA
      have xB := hoB.heap xA
      have yB : (wA.alloc (.cells #[.slice none 0 0, .slice none 0 0] 41)).heap[wA.heap.size]? = some (.cells #[.slice none 0 0, .slice none 0 0] 41) := heap_alloc_self _
      have hsB := hsA.old hoB
      have hoB' := hoA'.trans hoB
      generalize wA.alloc (.cells #[.slice none 0 0, .slice none 0 0] 41) = wB at *
      have hF := rpf_mk' hC hoB' hsB haE.fl (br := wA.heap.size) (rb := w5.heap.size) (by show bs < _ ∧ fb < _ ∧ sb < _; omega) (by show bs < _ ∧ fb < _ ∧ sb < _; omega) (by omega) (by omega) (by omega) dB yB xB
      simp only [endK, ↓RV9, ↓RI, ↓RB, ↓RSs, ↓RT9, ↓RT7, ↓RT, ↓RG, RV, Lc, GE, nA, sA, sB, yB, isOne, List.all_cons, List.all_nil]
      generalize putL wB wA.heap.size 0 [.slice (some ⟨w5.heap.size, 0, none⟩) p.points p.points, .slice (some ⟨sb, 0, none⟩) p.sites p.sites] = wC at hF ⊢
      generalize wA.heap.size = br at hF ⊢
      generalize w5.heap.size = rb at hF ⊢
      exact tail br rb wC hF
     ·have hoA := (Old.refl (Sh.dr w5)).alloc (.cells #[.slice none 0 0, .slice none 0 0] 41)
      have sA := hoA.heap (show (Sh.dr w5).heap[bs]? = _ from s5)
      have nA := hoA.heap (show (Sh.dr w5).heap[pb]? = _ from n5)
      have dA := hoA.heap (show (Sh.dr w5).heap[w.heap.size + 1]? = _ from d6)
      have xA : ((Sh.dr w5).alloc (.cells #[.slice none 0 0, .slice none 0 0] 41)).heap[w5.heap.size]? = some (.cells #[.slice none 0 0, .slice none 0 0] 41) := heap_alloc_self (w := Sh.dr w5) _
      have hzA : ((Sh.dr w5).alloc (.cells #[.slice none 0 0, .slice none 0 0] 41)).heap.size = w5.heap.size + 1 := size_alloc _
      have hsA := hs5.dr.old hoA
      have hoA' := ho5.dr.trans hoA
      generalize (Sh.dr w5).alloc (.cells #[.slice none 0 0, .slice none 0 0] 41) = wA at *
      have hoB := (Old.refl wA).alloc (.cells (fcA spE (List.replicate p.points n0)) 54)
      have sB := hoB.heap sA
      have dB := hoB.heap dA
      have xB := hoB.heap xA
      have yB : (wA.alloc (.cells (fcA spE (List.replicate p.points n0)) 54)).heap[wA.heap.size]? = some (.cells (fcA spE (List.replicate p.points n0)) 54) := heap_alloc_self _
      have hsB := hsA.old hoB
      have hoB' := hoA'.trans hoB
      generalize wA.alloc (.cells (fcA spE (List.replicate p.points n0)) 54) = wB at *
      have hF := rpf_mk' hC hoB' hsB haE.fl (br := w5.heap.size) (rb := wA.heap.size) (by show bs < _ ∧ fb < _ ∧ sb < _; omega) (by show bs < _ ∧ fb < _ ∧ sb < _; omega) (by omega) (by omega) (by omega) dB xB yB
      simp only [endK, ↓RV9, ↓RI, ↓RB, ↓RSs, ↓RT9, ↓RT7, ↓RT, ↓RG, RV, Lc, GE, nA, sA, sB, xB, isOne, List.all_cons, List.all_nil]
      exact tail _ _ _ hF
    ·rintro br rb w6 ⟨hR, hRc⟩
     have s6 : w6.heap[bs]? = some (.cells #[domV sv, vi d, vi cfg.delay, vi cfg.narrow, vi cfg.unroll, .bool thr, .slice (some ⟨fb, 0, none⟩) p.points p.points, .slice (some ⟨sb, 0, none⟩) p.sites p.sites, vi 0] tySolver (0, 0)) := hR.sv.sol
     simp only [endK, ↓RV9, ↓RI, ↓RB, ↓RSs, ↓RT9, ↓RT7, ↓RT, ↓RG, RV, Lc, GE, s6]
     refine report_loop hRc haE hP (by show _ ≠ bs ∧ _ ≠ fb ∧ _ ≠ sb ∧ w.heap.size ≤ _; omega) hR ?_
     intro w7 ho7 hs7 hrb7
     exact ⟨rb, sb, rfl, ho7, hrb7, hs7.sc⟩
end Go.Inv
namespace Go.Inv
open Go.Sh
def stepsOf (nums : List Nat) : List Int := nums.flatMap fun n : Nat => [(n : Int), IntKind.i64.wrap (0 - (n : Int))]
def cfgV (d : Int) (cfg : Cfg) (thr : Bool) : Value := .agg #[vi d, vi cfg.delay, vi cfg.narrow, vi cfg.unroll, .bool thr]
theorem bd_166 (a : Option Addr) (n c : Nat) (w : World) : (sBuild 111 [(0, .slice a n c)]).run pr w = .ok (.value (.agg #[.slice a n c])) w := by kernel_rfl
theorem rBd166 : ∀ E w K a n c, o pr E w (sBuild 111 [(0, .slice a n c)]) K = K (.agg #[.slice a n c]) w := fun _ w _ a n c => o_val (bd_166 a n c w)
theorem bs_2i (a b : Int) (w : World) : (sBuildSlice 22 2 [(0, vi a), (1, vi b)]).run pr w = .ok (.value (.slice (some ⟨w.heap.size, 0, none⟩) 2 2)) (w.alloc (.cells #[vi a, vi b] 3)) := by kernel_rfl
theorem rBs2 : ∀ E w K a b, o pr E w (sBuildSlice 22 2 [(0, vi a), (1, vi b)]) K = K (.slice (some ⟨w.heap.size, 0, none⟩) 2 2) (w.alloc (.cells #[vi a, vi b] 3)) := fun _ w _ a b => o_val (bs_2i a b w)
theorem OwnInts {w : World} {base : Nat} {v : Value} {l : List Int} (h : w.ownsRow base 3 1 v l.length (l.map vi)) : IntsAt w v l ∧ isOne v = true ∧ (∀ k, v.ownBlock = some k → base ≤ k ∧ ∃ cs, w.heap[k]? = some (.cells cs 3 (0, 0))) := by
 rcases h.2 with ⟨rfl, h2⟩ | ⟨nb, cap, c, rfl, h2, h3, h4⟩
 ·have : l = [] := List.length_eq_zero_iff.1 (by simpa using h2)
  subst this
  exact ⟨.inl ⟨rfl, _, _, rfl⟩, rfl, fun k hk => by cases hk⟩
 ·refine ⟨.inr ⟨nb, 0, cap, c, 3, (0, 0), rfl, h3, fun j x hj => ?_⟩, rfl, fun k hk => by cases hk; exact ⟨h2, _, h3⟩⟩
  obtain ⟨_, _, _, h7⟩ := h4
  rw [Nat.mul_one] at h7
  obtain ⟨hjl, _⟩ := List.getElem?_eq_some_iff.1 hj
  have hm : (l.map vi)[j]? = some (vi x) := by rw [List.getElem?_map, hj]; rfl
  rw [← h7, List.getElem?_take, if_pos hjl] at hm
  rw [Nat.zero_add, ← Array.getElem?_toList]; exact hm
structure AnF (w : World) (d : Int) (cfg : Cfg) (thr : Bool) (w' : World) : Prop where
 old : Old w w'
 b3 : w'.heap[w.heap.size]? = some (.cells #[vi d, vi cfg.delay, vi cfg.narrow, vi cfg.unroll, .bool thr] 26 (0, 0))
 b4 : w'.heap[w.heap.size + 1]? = some (.cells #[.slice none 0 0, .slice none 0 0] 41 (0, 0))
def AnJ (w : World) (d : Int) (cfg : Cfg) (thr : Bool) (steps : List Int) (vs : List Value) (w' : World) : Prop := ∃ v, vs = [v] ∧ AnF w d cfg thr w' ∧ IntsAt w' v steps ∧ isOne v = true ∧ ∀ k, v.ownBlock = some k → k < w'.heap.size
def AnI (w : World) (d : Int) (cfg : Cfg) (nums : List Nat) (vs : List Value) (w' : World) : Prop := ∃ (k : Nat) (v : Value), vs = [v, vi k] ∧ k ≤ nums.length ∧ AnF w d cfg true w' ∧ w'.ownsRow (w.heap.size + 2) 3 1 v (stepsOf (nums.take k)).length ((stepsOf (nums.take k)).map vi)
def AnM (n : Nat) (vs : List Value) (_ : World) : Nat := match vs with
 | [_, .int _ k] => n - k.toNat
 | _ => 0
theorem analyze_walk {w : World} {pb gas : Nat} {p : Prog} {bv nv : Value} {xs : List Value} {d : Int} {thr : Bool} {cfg : Cfg} {a : AS Span} (hd : d ≠ 1) (hg : ProgG p) (hP : p.points ≤ 1000000000) (hS : p.sites ≤ 1000000000) (hsz : szLs p.body ≤ 1000000000) (hgas : gas ≤ 1000000000)
 (hcf : cfg.unroll ≤ 1000 ∧ cfg.narrow ≤ 1000 ∧ cfg.delay ≤ 1000) (hn : w.heap[pb]? = some (.cells #[bv, vi p.points, vi p.sites, nv] tyProg (0, 0))) (hrow : RowP (Bel w.heap.size) w bv xs) (hsts : StsP (Bel w.heap.size) w xs p.body)
 (hnum : IntsAt w nv (p.nums.map fun n : Nat => (n : Int))) (hnl : p.nums.length ≤ 400000) (hr : solveA (spans (if thr then stepsOf p.nums else [])) cfg gas p = some a) :
 Calls pr n_analysis_Analyze #[pt pb 0, cfgV d cfg thr] w (SoP w p.points p.sites a) := by
 refine sh_analysis_Analyze_ok _ _ _ _ ?_
 unfold sh_analysis_Analyze
 have ltp := lt_of_heap hn
 have hsl : (if thr then stepsOf p.nums else []).length ≤ 1000000 := by
  split
  ·unfold stepsOf; rw [flat_len (k := 2) (fun _ _ => rfl)]; omega
  ·simp
 have h0 : AnF w d cfg thr ((w.alloc (.cells #[vi d, vi cfg.delay, vi cfg.narrow, vi cfg.unroll, .bool thr] 26)).alloc (.cells #[.slice none 0 0, .slice none 0 0] 41)) := by
  refine ⟨?_, by (repeat (first | with_reducible assumption | with_reducible exact heap_alloc_at (by (first | omega | (simp only [size_alloc, size_putL]; done) | (simp only [size_alloc, size_putL]; omega))) | with_reducible refine (heap_alloc_ne (by (first | omega | (simp only [size_alloc, size_putL]; done) | (simp only [size_alloc, size_putL]; omega)))).trans ?_ | with_reducible refine (heap_putL_ne (by (first | omega | (simp only [size_alloc, size_putL]; done) | (simp only [size_alloc, size_putL]; omega))) _ _ _).trans ?_ | with_reducible apply putSp)), by (repeat (first | with_reducible assumption | with_reducible exact heap_alloc_at (by (first | omega | (simp only [size_alloc, size_putL]; done) | (simp only [size_alloc, size_putL]; omega))) | with_reducible refine (heap_alloc_ne (by (first | omega | (simp only [size_alloc, size_putL]; done) | (simp only [size_alloc, size_putL]; omega)))).trans ?_ | with_reducible refine (heap_putL_ne (by (first | omega | (simp only [size_alloc, size_putL]; done) | (simp only [size_alloc, size_putL]; omega))) _ _ _).trans ?_ | with_reducible apply putSp))⟩
  have := Old.refl w
  (repeat (first | with_reducible assumption | with_reducible refine Old.putL (by (first | omega | (simp only [size_alloc, size_putL]; done) | (simp only [size_alloc, size_putL]; omega))) ?_ | with_reducible refine Old.alloc ?_ _))
 simp only [cfgV, ↓RV9, ↓RI, ↓RB, ↓RSs, ↓RT9, ↓RT7, ↓RT, ↓RG, RV, agg_cells, size_alloc]
 generalize ((w.alloc (.cells #[vi d, vi cfg.delay, vi cfg.narrow, vi cfg.unroll, .bool thr] 26)).alloc (.cells #[.slice none 0 0, .slice none 0 0] 41)) = w1 at *
 have ed : (d == 1) = false := by simpa using hd
 simp only [ed, ↓RV9, ↓RI, ↓RB, ↓RSs, ↓RT9, ↓RT7, ↓RT, ↓RG, RV, h0.b3]
 refine ⟨AnJ w d cfg thr (if thr then stepsOf p.nums else []), ?_, ?_⟩
 ·rintro e1 w2 ⟨v, he, hF, hi, h1v, hown⟩
  have e5 : e1 5 = v := by simpa using he
  rw [e5]
  obtain ⟨sa, sc, hve⟩ := hi.len
  rw [hve]
  simp only [↓rBd166, ↓RV9, ↓RI, ↓RB, ↓RSs, ↓RT9, ↓RT7, ↓RT, ↓RG, RV, hF.b3, row5all]
  rw [← hve]
  have hsz2 := hF.old.size
  refine cl_of (solve_walk (steps := (if thr then stepsOf p.nums else [])) hg hP hS hsz hgas hcf (hF.old.heap hn) (hrow.keep' (fun c hc _ => Nat.lt_of_lt_of_le hc hsz2) ?_) (hsts.keep' (fun c hc _ => Nat.lt_of_lt_of_le hc hsz2) ?_ hF.old.keepS) hi hsl h1v hown hr) ?_
  ·exact fun c cs t hc _ hn => hF.old.heap hn
  ·exact fun c cs t hc _ hn => hF.old.heap hn
  ·rintro e w3 ⟨rb, sb, rfl, ho3, hrb, hsb⟩
   have d4 := ho3.heap hF.b4
   have e4 := putSp (p := .slice (some ⟨rb, 0, none⟩) p.points p.points) (q := .slice (some ⟨sb, 0, none⟩) p.sites p.sites) d4
   simp only [endK, ↓RV9, ↓RI, ↓RB, ↓RSs, ↓RT9, ↓RT7, ↓RT, ↓RG, RV, Lc, d4, e4, isOne, List.all_cons, List.all_nil]
   refine ⟨rb, sb, rfl, (hF.old.trans ho3).putL (by omega), ?_, ?_⟩
   ·rw [heap_putL_ne (by rintro rfl; rw [d4] at hrb; injection hrb with hh; injection hh with _ hh; exact absurd hh (by decide))]; exact hrb
   ·rw [heap_putL_ne (by rintro rfl; rw [d4] at hsb; injection hsb with hh; injection hh with _ hh; exact absurd hh (by decide))]; exact hsb
 ·cases thr with
  | false =>
    simp only [↓RV9, ↓RI, ↓RB, ↓RSs, ↓RT9, ↓RT7, ↓RT, ↓RG, RV]
    exact ⟨_, rfl, h0, .inl ⟨rfl, _, _, rfl⟩, rfl, fun k hk => by cases hk⟩
  | true =>
    have n1 := h0.old.heap hn
    have hnum1 := hnum.old h0.old
    obtain ⟨na, nc, hnv⟩ := hnum1.len
    rw [List.length_map] at hnv
    simp only [↓RV9, ↓RI, ↓RB, ↓RSs, ↓RT9, ↓RT7, ↓RT, ↓RG, RV, n1]
    rw [hnv]
    simp only [↓RV9, ↓RI, ↓RB, ↓RSs, ↓RT9, ↓RT7, ↓RT, ↓RG, RV]
    rw [← hnv]
    refine ⟨AnI w d cfg p.nums, AnM p.nums.length, ⟨0, _, rfl, Nat.zero_le _, h0, World.ownsRow_nil w1 _ _ _⟩, ?_⟩
    rintro e2 w2 ⟨k, v, he, hk, hF, hown⟩
    obtain ⟨e5, e23⟩ : e2 5 = v ∧ e2 23 = vi k := by simpa using he
    rw [e5, e23]
    simp only [↓RV9, ↓RI, ↓RB, ↓RSs, ↓RT9, ↓RT7, ↓RT, ↓RG, RV]
    refine condJ (p := k < p.nums.length) (by simp only [decide_eq_decide]; omega) (fun hlt => ?_) (fun hlt => ?_)
    ·have hx : (p.nums.map fun n : Nat => (n : Int))[k]? = some ((p.nums[k] : Nat) : Int) := by simp [hlt]
     have hnum2 := hnum.old hF.old
     obtain ⟨bn, off, c, hvb, hcell⟩ := hnum2.cell hx
     rw [List.length_map] at hvb
     have hst := (show stepsOf (p.nums.take (k + 1)) = stepsOf (p.nums.take k) ++ [((p.nums[k] : Nat) : Int), IntKind.i64.wrap (0 - ((p.nums[k] : Nat) : Int))] by
      unfold stepsOf; rw [List.take_add_one, List.flatMap_append]; simp [hlt])
     generalize p.nums[k] = m at *
     rw [hvb]
     simp only [(pur_IAs el22 (Int.natCast_nonneg k) (by omega : (k : Int) < (p.nums.length : Nat))).o, Int.toNat_natCast, Nat.mul_one, hcell, ↓rBs2, ↓RV9, ↓RI, ↓RB, ↓RSs, ↓RT9, ↓RT7, ↓RT, ↓RG, RV]
     have hl2 : (stepsOf (p.nums.take k)).length ≤ 800000 := by
      unfold stepsOf; rw [flat_len (k := 2) (fun _ _ => rfl), List.length_take]; omega
     have hown2 : (w2.alloc (.cells #[vi (m : Int), vi (IntKind.i64.wrap (0 - (m : Int)))] 3)).ownsRow (w.heap.size + 2) 3 1 v (stepsOf (p.nums.take k)).length ((stepsOf (p.nums.take k)).map vi) := by
      refine ⟨hown.1, ?_⟩
      rcases hown.2 with h | ⟨nb, cap, c, g1, g2, g3, g4⟩
      ·exact .inl h
      ·exact .inr ⟨nb, cap, c, g1, g2, by rw [heap_alloc_ne (by have := lt_of_heap g3; omega)]; exact g3, g4⟩
     have lt4 := lt_of_heap hF.b4
     refine o_appendN (us := [vi (m : Int), vi (IntKind.i64.wrap (0 - (m : Int)))]) sl22' hown2 (heap_alloc_self _) rfl (by simp [Value.oneCell']) (by omega) (by rw [size_alloc]; omega) ?_
     intro v' w3 hr hg
     have hvt := (OwnInts hown).2.2
     have keep : ∀ (j : Nat) (y : Obj), w2.heap[j]? = some y → (∀ cs, y ≠ .cells cs 3 (0, 0)) → w3.heap[j]? = some y := fun j y hy hne => by
      have hl := lt_of_heap hy
      rw [hg.block j (by rw [size_alloc]; omega) (fun e => by obtain ⟨_, cs, h'⟩ := hvt j e.symm; rw [hy] at h'; cases h'; exact hne _ rfl), heap_alloc_ne (by omega)]
      exact hy
     have ho3 : Old w w3 := ⟨by have := hg.size; rw [size_alloc] at this; have := hF.old.size; omega, fun j hj => by
      have := hF.old.size
      rw [hg.block j (by rw [size_alloc]; omega) (fun e => by have := (hvt j e.symm).1; omega), heap_alloc_ne (by omega)]
      exact hF.old.old j hj, (hF.old.out.alloc _).grown hg⟩
     have h3b := keep _ _ hF.b3 (fun cs e => by cases e)
     have h4b := keep _ _ hF.b4 (fun cs e => by cases e)
     rw [Is.step (show k ≤ 1000000001 by omega)]
     refine ⟨⟨k + 1, v', rfl, hlt, ⟨ho3, h3b, h4b⟩, ?_⟩, by simp only [AnM, Int.toNat_natCast]; omega⟩
     rw [hst]; simpa using hr
    ·have : k = p.nums.length := by omega
     subst this
     rw [List.take_length] at hown
     obtain ⟨o1, o2, o3⟩ := OwnInts hown
     exact ⟨v, rfl, hF, o1, o2, fun j hj => by obtain ⟨_, cs, hc⟩ := o3 j hj; exact lt_of_heap hc⟩
end Go.Inv
namespace Go.Inv
open Go.Sh
def uns (n : Int) (m : Nat) : Nat := ((n % 18446744073709551616) % m).toNat
theorem al_45 (w : World) : (sAlloc 26).run pr w = .ok (.value (pt w.heap.size 0)) (w.alloc (.cells #[vi 0, vi 0, vi 0, vi 0, .bool false] 26)) := by kernel_rfl
theorem rAl45 : ∀ E w K, o pr E w (sAlloc 26) K = K (pt w.heap.size 0) (w.alloc (.cells #[vi 0, vi 0, vi 0, vi 0, .bool false] 26)) := fun _ w _ => o_val (al_45 w)
theorem bd_45 (d : Int) (t : Bool) (w : World) : (sBuild 26 [(0, vi d), (4, .bool t)]).run pr w = .ok (.value (.agg #[vi d, vi 0, vi 0, vi 0, .bool t])) w := by kernel_rfl
theorem rBd45 : ∀ E w K d t, o pr E w (sBuild 26 [(0, vi d), (4, .bool t)]) K = K (.agg #[vi d, vi 0, vi 0, vi 0, .bool t]) w := fun _ w _ d t => o_val (bd_45 d t w)
theorem wrap_u64 (a : Int) : IntKind.u64.wrap a = a % 18446744073709551616 := by
 simp [IntKind.wrap, IntKind.bits, IntKind.signed]
theorem rem_uns (a : Int) (m : Nat) (hm : 0 < m) (hm2 : m ≤ 1000) : intV .rem .u64 (IntKind.u64.wrap a) m = some (.int .u64 (uns a m : Nat)) := by
 have h0 : 0 ≤ a % 18446744073709551616 := Int.emod_nonneg _ (by decide)
 have h1 : 0 ≤ a % 18446744073709551616 % m := Int.emod_nonneg _ (by omega)
 have h2 : a % 18446744073709551616 % m < m := Int.emod_lt_of_pos _ (by omega)
 have hne : ¬ ((m : Int) = 0) := by omega
 have hw : IntKind.u64.wrap (a % 18446744073709551616 % m) = a % 18446744073709551616 % m := by
  rw [wrap_u64, Int.emod_eq_of_lt h1 (by omega)]
 simp only [intV, if_neg hne, wrap_u64 a, Int.tmod_eq_emod_of_nonneg h0, hw, uns]
 rw [Int.toNat_of_nonneg h1]
theorem uns_lt (a : Int) (m : Nat) (hm : 0 < m) : uns a m < m := by
 have h1 : 0 ≤ a % 18446744073709551616 % m := Int.emod_nonneg _ (by omega)
 have h2 : a % 18446744073709551616 % m < m := Int.emod_lt_of_pos _ (by omega)
 unfold uns; omega
theorem okRow5 (a b c d e : Value) (t : Nat) : okRow (some (.cells #[a, b, c, d, e] t (0, 0))) 0 5 = true := rfl
theorem row5m (a b c d e p q r s u : Value) (t : Nat) (f : Nat × Nat) : Option.map (rowObj 0 [p, q, r, s, u]) (some (.cells #[a, b, c, d, e] t f)) = some (.cells #[p, q, r, s, u] t f) := rfl
theorem config_ok (d a b c : Int) (t : Bool) (w : World) : Calls pr n_law_config #[vi d, vi a, vi b, vi c, .bool t] w (Ret (cfgV d ⟨uns a 5, uns b 4, uns c 4⟩ t) w) := by
 refine sh_law_config_ok _ _ _ _ _ _ _ ?_
 unfold sh_law_config
 have e1 : intV .rem .u64 (IntKind.u64.wrap a) 5 = some (.int .u64 (uns a 5 : Nat)) := rem_uns a 5 (by decide) (by decide)
 have e2 : intV .rem .u64 (IntKind.u64.wrap b) 4 = some (.int .u64 (uns b 4 : Nat)) := rem_uns b 4 (by decide) (by decide)
 have e3 : intV .rem .u64 (IntKind.u64.wrap c) 4 = some (.int .u64 (uns c 4 : Nat)) := rem_uns c 4 (by decide) (by decide)
 have f1 := uns_lt a 5 (by decide)
 have f2 := uns_lt b 4 (by decide)
 have f3 := uns_lt c 4 (by decide)
 have g1 : IntKind.i64.wrap ((uns a 5 : Nat) : Int) = (uns a 5 : Nat) := wrap64 (by omega) (by omega)
 have g2 : IntKind.i64.wrap ((uns b 4 : Nat) : Int) = (uns b 4 : Nat) := wrap64 (by omega) (by omega)
 have g3 : IntKind.i64.wrap ((uns c 4 : Nat) : Int) = (uns c 4 : Nat) := wrap64 (by omega) (by omega)
 simp only [↓rAl45, ↓rBd45, ↓rRs ag26, ↓RV9, ↓RI, ↓RB, ↓RSs, ↓RT9, ↓RT7, ↓RT, ↓RG, RV, Lm, Lc, Lw, eqA, eqB, eqC, okRow5, row5m, row5all, okRow_putL, e1, e2, e3, g1, g2, g3, ↓reduceIte, isOne, List.all_cons, List.all_nil, Bool.and_self, Nat.reduceLT, decide_true, Nat.reduceAdd, Nat.reduceEqDiff, show ((0 : Nat) = 1) = False from by simp]
 refine ⟨rfl, ?_⟩
 have := Old.refl w
 repeat (first | with_reducible assumption | with_reducible refine Old.putL (by (first | omega | (simp only [size_alloc, size_putL]; done) | (simp only [size_alloc, size_putL]; omega))) ?_ | with_reducible refine Old.put ?_ (by (first | omega | (simp only [size_alloc, size_putL]; done) | (simp only [size_alloc, size_putL]; omega))) | with_reducible refine Old.alloc ?_ _)
end Go.Inv
namespace Go.Inv
mutual
theorem szSt_le : ∀ s : Stmt, szSt s ≤ sizSt s
 | .set _ _ _ => by simp only [szSt, sizSt]; omega
 | .get _ _ => by simp only [szSt, sizSt]; omega
 | .assert _ _ _ => by simp only [szSt, sizSt]; omega
 | .ite _ _ t e _ => by
   have := szLs_le t
   have := szLs_le e
   simp only [szSt, sizSt]; omega
 | .loop _ _ b => by
   have := szLs_le b
   simp only [szSt, sizSt]; omega
theorem szLs_le : ∀ l : Stmts, szLs l ≤ sizL l
 | .nil => by simp only [szLs, sizL]; omega
 | .cons s r => by
   have := szSt_le s
   have := szLs_le r
   simp only [szLs, sizL]; omega
end
theorem read_bounds {src : Bytes} {n : Nat} {p : Prog} (h : readS src n = some (.ok p)) : p.points ≤ 401 ∧ p.sites ≤ 400 ∧ p.nums.length ≤ 400 ∧ szLs p.body ≤ 400 := by
 have hs := read_size h
 have hl2 := szLs_le p.body
 unfold readS at h
 split at h
 ·cases h
 ·rename_i hlen
  split at h
  ·cases h
  ·cases h
  ·rename_i l st hl
   split at h
   ·cases h
   ·cases h
    obtain ⟨k, e⟩ := stsS_size n _ _ _ (st0_wf src) hl
    have := k.wf.ae; have := k.wf.el; have := k.wf.sa; have := k.wf.pa; have := k.wf.na
    simp only at hs hl2 ⊢
    omega
end Go.Inv
namespace Go.Inv
open Go.Sh
def Vis8 (vs : List (Nat × Store)) : Prop := ∀ x ∈ vs, x.2.length = 8
theorem visCells_get : ∀ {vs : List (Nat × Store)} {k p : Nat} {s : Store}, Vis8 vs → vs[k]? = some (p, s) → ((visCells vs).drop (k * 9)).take 9 = vi p :: s.map i16
 | [], k, p, s, _, h => by simp at h
 | x :: r, 0, p, s, h8, h => by
   simp at h
   subst h
   have := h8 _ (List.mem_cons_self ..)
   simp only [visCells, List.flatMap_cons, Nat.zero_mul, List.drop_zero]
   rw [List.take_append_of_le_length (by simp at this; simp [this])]
   exact List.take_of_length_le (by simp at this; simp [this])
 | x :: r, k + 1, p, s, h8, h => by
   have hx := h8 x (List.mem_cons_self ..)
   have h' : r[k]? = some (p, s) := by simpa using h
   have ih := visCells_get (fun y hy => h8 y (List.mem_cons_of_mem _ hy)) h'
   have hl : (vi x.1 :: x.2.map i16).length = 9 := by simp [hx]
   rw [show visCells (x :: r) = (vi x.1 :: x.2.map i16) ++ visCells r from rfl, show (k + 1) * 9 = (vi x.1 :: x.2.map i16).length + k * 9 by rw [hl]; omega, ← List.drop_drop, List.drop_left]
   exact ih
theorem VisAt.row {B : Nat} {w : World} {v : Value} {vs : List (Nat × Store)} (h : VisAt B w v vs) {k p : Nat} {s : Store} (h8 : Vis8 vs) (hk : vs[k]? = some (p, s)) :
 ∃ g cap, v = .slice (some ⟨g, 0, none⟩) vs.length cap ∧ blkRow (w.heap[g]?) (0 + k * 9) 9 = some (.agg (vi p :: s.map i16).toArray) := by
 have hkl := (List.getElem?_eq_some_iff.1 hk).1
 rcases h.2 with ⟨_, h0⟩ | ⟨g, cap, cur, rfl, h2, h3, h4, h5, h6, h7⟩
 ·omega
 ·refine ⟨g, cap, rfl, ?_⟩
  have hv := visCells_get h8 hk
  rw [← h7] at hv
  rw [List.drop_take, List.take_take, Nat.min_eq_left (by omega)] at hv
  rw [h3]
  have hsz : 0 + k * 9 + 9 ≤ cur.size := by
   rw [h6]
   have := Nat.mul_le_mul_right 9 (show k + 1 ≤ cap by omega)
   omega
  have : cur.extract (0 + k * 9) (0 + k * 9 + 9) = (vi p :: s.map i16).toArray := by
   rw [← hv]
   apply Array.ext'
   simp [Array.toList_extract, List.extract_eq_take_drop]
  simp only [blkRow, if_pos hsz, this]
theorem VisAt.slice {B : Nat} {w : World} {v : Value} {vs : List (Nat × Store)} (h : VisAt B w v vs) : ∃ a cap, v = .slice a vs.length cap := by
 rcases h.2 with ⟨rfl, h0⟩ | ⟨g, cap, cur, rfl, _⟩
 ·exact ⟨none, 0, by rw [h0]⟩
 ·exact ⟨_, cap, rfl⟩
theorem VisAt.old {B : Nat} {w w' : World} {v : Value} {vs : List (Nat × Store)} (h : VisAt B w v vs) (ho : Old w w') : VisAt B w' v vs := h.keep fun _ _ h => ho.heap h
end Go.Inv
namespace Go.Inv
open Go.Sh
def outc : Except (Nat × Nat) (List (Nat × Store) × Int) → (List (Nat × Store) × Int) × Nat
 | .error (x, _) => (([], 0), x)
 | .ok t => (t, 0)
theorem RelsAt.old {w w' : World} (h : RelsAt w) (ho : Old w w') : RelsAt w' := by
 obtain ⟨t, f, h⟩ := h; exact ⟨t, f, ho.heap h⟩
theorem ErrTy.old {w w' : World} (h : ErrTy w) (ho : Old w w') : ErrTy w' := by
 obtain ⟨t, f, h⟩ := h; exact ⟨t, f, ho.heap h⟩
theorem VisAt.nil (B : Nat) (w : World) : VisAt B w (.slice none 0 0) [] := ⟨rfl, .inl ⟨rfl, rfl⟩⟩
theorem InvP.outc {w w' : World} {r : Except (Nat × Nat) (List (Nat × Store) × Int)} {e : Ending} (h : InvP w r e w') :
 Old w w' ∧ ∃ v ev, e = .returned (.tuple #[.agg #[v, vi (outc r).1.2], ev]) ∧ VisAt w.heap.size w' v (outc r).1.1 ∧
  ∀ w'', Old w' w'' → ErrTy w'' → ∃ a, Calls pr n_api_Tell #[ev] w'' (TellP w'' (outc r).2 a) := by
 obtain ⟨ho, h⟩ := h
 refine ⟨ho, ?_⟩
 match r with
 | .error (x, a) =>
   obtain ⟨v, rfl, he⟩ := h
   exact ⟨_, v, rfl, VisAt.nil _ _, fun w'' ho' hg => ⟨a, tell_err hg (he.keep ho')⟩⟩
 | .ok t =>
   obtain ⟨vv, rfl, hv⟩ := h
   exact ⟨vv, _, rfl, hv, fun w'' ho' hg => ⟨0, tell_nil w''⟩⟩
theorem ins_ok (l : List Int) : InpOk (l.map w16) := by
 intro a ha
 obtain ⟨x, _, rfl⟩ := List.mem_map.1 ha
 exact ⟨w16_ge x, w16_le x⟩
end Go.Inv
namespace Go.Inv
open Go.Sh
theorem bd_105 (a b : Int) (w : World) : (sBuild 70 [(0, vi a), (1, vi b)]).run pr w = .ok (.value (.agg #[vi a, vi b])) w := by kernel_rfl
theorem bd_106 (a b c d e f g h : Int) (w : World) : (sBuild 71 [(0, .agg #[vi a, vi b]), (1, .agg #[vi c, vi d]), (2, .agg #[vi e, vi f]), (3, .agg #[vi g, vi h])]).run pr w = .ok (.value (.agg #[vi a, vi b, vi c, vi d, vi e, vi f, vi g, vi h])) w := by kernel_rfl
theorem bd_49z (w : World) : (sBuild 41 []).run pr w = .ok (.value (.agg #[.slice none 0 0, .slice none 0 0])) w := by kernel_rfl
theorem al_105 (w : World) : (sAlloc 70).run pr w = .ok (.value (pt w.heap.size 0)) (w.alloc (.cells #[vi 0, vi 0] 70)) := by kernel_rfl
theorem ix_106 (a b c d e f g h : Int) (w : World) :
 ((sIdx 71 (.agg #[vi a, vi b, vi c, vi d, vi e, vi f, vi g, vi h]) (vi 0)).run pr w = .ok (.value (.agg #[vi a, vi b])) w) ∧ ((sIdx 71 (.agg #[vi a, vi b, vi c, vi d, vi e, vi f, vi g, vi h]) (vi 1)).run pr w = .ok (.value (.agg #[vi c, vi d])) w) ∧
 ((sIdx 71 (.agg #[vi a, vi b, vi c, vi d, vi e, vi f, vi g, vi h]) (vi 2)).run pr w = .ok (.value (.agg #[vi e, vi f])) w) ∧ ((sIdx 71 (.agg #[vi a, vi b, vi c, vi d, vi e, vi f, vi g, vi h]) (vi 3)).run pr w = .ok (.value (.agg #[vi g, vi h])) w) :=
 ⟨by kernel_rfl, by kernel_rfl, by kernel_rfl, by kernel_rfl⟩
def bx (d a b c : Int) (k : Nat) : Int × Int := match k with
 | 0 => (d, 1)
 | 1 => (a, 4)
 | 2 => (b, 3)
 | _ => (c, 3)
theorem ix_k (d a b c : Int) {k : Nat} (hk : k < 4) (w : World) : (sIdx 71 (.agg #[vi d, vi 1, vi a, vi 4, vi b, vi 3, vi c, vi 3]) (vi k)).run pr w = .ok (.value (.agg #[vi (bx d a b c k).1, vi (bx d a b c k).2])) w := by
 have h := ix_106 d 1 a 4 b 3 c 3 w
 match k, hk with
 | 0, _ => exact h.1
 | 1, _ => exact h.2.1
 | 2, _ => exact h.2.2.1
 | 3, _ => exact h.2.2.2
theorem el70 : elemA pr 70 = some (2, 1) := by kernel_rfl
theorem rIA105 (b : Nat) : Pur pr (sIA 70 (pt b 0) (vi 0)) (pt b 0) ∧ Pur pr (sIA 70 (pt b 0) (vi 1)) (pt b 1) := by
 have h0 := pur_IAa (b := b) (off := 0) el70 (by decide : (0 : Int) ≤ 0) (by decide : (0 : Int) < (2 : Nat))
 have h1 := pur_IAa (b := b) (off := 0) el70 (by decide : (0 : Int) ≤ 1) (by decide : (1 : Int) < (2 : Nat))
 exact ⟨by simpa using h0, by simpa using h1⟩
def AnlP (w : World) (gas : Nat) (cfg : Cfg) (thr : Bool) (res : Except (Nat × Nat) Prog) : Ending → World → Prop := fun e w' => Old w w' ∧ match res with
 | .error (x, a) => ∃ v, e = .returned (.tuple #[.agg #[.slice none 0 0, .slice none 0 0], v]) ∧ ErrAt w' v x a
 | .ok pg => ∃ a rb sb, solveA (spans (if thr then stepsOf pg.nums else [])) cfg gas pg = some a ∧ e = .returned (.tuple #[.agg #[.slice (some ⟨rb, 0, none⟩) pg.points pg.points, .slice (some ⟨sb, 0, none⟩) pg.sites pg.sites], .nilIface]) ∧
  w'.heap[rb]? = some (.cells (fcA spE a.facts) 54 (0, 0)) ∧ w'.heap[sb]? = some (.cells (a.sites.map fun n : Nat => vi n).toArray 3 (0, 0))
def AlI (w : World) (cfg : Cfg) (thr : Bool) (w2 : World) (vs : List Value) (w' : World) : Prop := ∃ k : Nat, vs = [vi k] ∧ k ≤ 4 ∧ Old w2 w' ∧ AnF w 0 cfg thr w'
theorem anl_ok {src : Bytes} {w : World} {gas : Nat} {cfg : Cfg} {thr : Bool} {res : Except (Nat × Nat) Prog} (hrel : RelsAt w) (hres : readS src (steps src) = some res) (hgas : gas ≤ 1000000000) (hcf : cfg.delay ≤ 4 ∧ cfg.narrow ≤ 3 ∧ cfg.unroll ≤ 3)
 (hsv : ∀ pg, res = .ok pg → ∃ a, solveA (spans (if thr then stepsOf pg.nums else [])) cfg gas pg = some a) :
 Calls pr n_inv_Analyze #[.string (S src), cfgV 0 cfg thr] w (AnlP w gas cfg thr res) := by
 refine sh_inv_Analyze_ok _ _ _ _ ?_
 unfold sh_inv_Analyze
 have h0 : AnF w 0 cfg thr ((w.alloc (.cells #[vi 0, vi cfg.delay, vi cfg.narrow, vi cfg.unroll, .bool thr] 26)).alloc (.cells #[.slice none 0 0, .slice none 0 0] 41)) := by
  refine ⟨?_, by (repeat (first | with_reducible assumption | with_reducible exact heap_alloc_at (by (first | omega | (simp only [size_alloc, size_putL]; done) | (simp only [size_alloc, size_putL]; omega))) | with_reducible refine (heap_alloc_ne (by (first | omega | (simp only [size_alloc, size_putL]; done) | (simp only [size_alloc, size_putL]; omega)))).trans ?_ | with_reducible refine (heap_putL_ne (by (first | omega | (simp only [size_alloc, size_putL]; done) | (simp only [size_alloc, size_putL]; omega))) _ _ _).trans ?_ | with_reducible apply putSp)), by (repeat (first | with_reducible assumption | with_reducible exact heap_alloc_at (by (first | omega | (simp only [size_alloc, size_putL]; done) | (simp only [size_alloc, size_putL]; omega))) | with_reducible refine (heap_alloc_ne (by (first | omega | (simp only [size_alloc, size_putL]; done) | (simp only [size_alloc, size_putL]; omega)))).trans ?_ | with_reducible refine (heap_putL_ne (by (first | omega | (simp only [size_alloc, size_putL]; done) | (simp only [size_alloc, size_putL]; omega))) _ _ _).trans ?_ | with_reducible apply putSp))⟩
  have := Old.refl w
  (repeat (first | with_reducible assumption | with_reducible refine Old.putL (by (first | omega | (simp only [size_alloc, size_putL]; done) | (simp only [size_alloc, size_putL]; omega))) ?_ | with_reducible refine Old.alloc ?_ _))
 simp only [cfgV, ↓RV9, ↓RI, ↓RB, ↓RSs, ↓RT9, ↓RT7, ↓RT, ↓RG, RV, agg_cells, size_alloc]
 generalize ((w.alloc (.cells #[vi 0, vi cfg.delay, vi cfg.narrow, vi cfg.unroll, .bool thr] 26)).alloc (.cells #[.slice none 0 0, .slice none 0 0] 41)) = w1 at *
 refine cl_of (read_ok (hrel.old h0.old) hres) ?_
 rintro e w2 ⟨ho2, hr⟩
 have h2 : AnF w 0 cfg thr w2 := ⟨h0.old.trans ho2, ho2.heap h0.b3, ho2.heap h0.b4⟩
 cases res with
 | error xa =>
   obtain ⟨x, a⟩ := xa
   obtain ⟨v, rfl, he⟩ := hr
   have e4 := putSp (p := .slice none 0 0) (q := .slice none 0 0) h2.b4
   simp only [endK, ↓o_val (he.neq _), ↓o_val (bd_49z _), ↓RV9, ↓RI, ↓RB, ↓RSs, ↓RT9, ↓RT7, ↓RT, ↓RG, RV, Lc, h2.b4, e4, isOne, List.all_cons, List.all_nil]
   refine ⟨h2.old.putL (by omega), v, rfl, ?_⟩
   rcases he with h | ⟨b, h1, h3⟩
   ·exact .inl h
   ·refine .inr ⟨b, h1, ?_⟩
    have hb : b ≠ w.heap.size + 1 := by rintro rfl; rw [h2.b4] at h3; cases h3
    rw [heap_putL_ne hb]; exact h3
 | ok pg =>
   obtain ⟨pb, rfl, bv, nv, hn, hL, ⟨xs, hrow, hsts⟩, hnums⟩ := hr
   obtain ⟨a, hsol⟩ := hsv pg rfl
   obtain ⟨bp, bs, bn, bz⟩ := read_bounds hres
   simp only [endK, ↓o_val (neqE_nil _), ↓o_val (bd_105 _ _ _), ↓o_val (bd_106 _ _ _ _ _ _ _ _ _), ↓RV9, ↓RI, ↓RB, ↓RSs, ↓RT9, ↓RT7, ↓RT, ↓RG, RV, Lc, h2.b3]
   refine ⟨AlI w cfg thr w2, UnM 4, ⟨0, rfl, by omega, Old.refl _, h2⟩, ?_⟩
   rintro e1 w3 ⟨k, he, hk, ho3, h3⟩
   have e32 : e1 32 = vi k := by simpa using he
   rw [e32]
   simp only [↓RV9, ↓RI, ↓RB, ↓RSs, ↓RT9, ↓RT7, ↓RT, ↓RG, RV]
   refine condJ (p := k < 4) (by simp only [decide_eq_decide]; omega) (fun h4 => ?_) (fun h4 => ?_)
   ·have hb : 0 ≤ (bx 0 cfg.delay cfg.narrow cfg.unroll k).1 ∧ (bx 0 cfg.delay cfg.narrow cfg.unroll k).1 ≤ (bx 0 cfg.delay cfg.narrow cfg.unroll k).2 := by
     match k, h4 with
     | 0, _ => exact ⟨by simp [bx], by simp [bx]⟩
     | 1, _ => exact ⟨by simp [bx], by simp only [bx]; omega⟩
     | 2, _ => exact ⟨by simp [bx], by simp only [bx]; omega⟩
     | 3, _ => exact ⟨by simp [bx], by simp only [bx]; omega⟩
    have ix := ix_k 0 cfg.delay cfg.narrow cfg.unroll h4 w3
    generalize bx 0 cfg.delay cfg.narrow cfg.unroll k = xm at hb ix
    obtain ⟨x, m⟩ := xm
    simp only at hb ix
    have jz : (w3.alloc (.cells #[vi 0, vi 0] 70)).heap[w3.heap.size]? = some (.cells #[vi 0, vi 0] 70) := heap_alloc_self _
    have c9 := putSp (p := vi x) (q := vi m) jz
    have ho4 : Old w3 (putL (w3.alloc (.cells #[vi 0, vi 0] 70)) w3.heap.size 0 [vi x, vi m]) := ((Old.refl w3).alloc _).putL (Nat.le_refl _)
    simp only [↓o_val ix, ↓o_val (al_105 _), ↓RV9, ↓RI, ↓RB, ↓RSs, ↓RT9, ↓RT7, ↓RT, ↓RG, RV, Lc, jz, isOne, List.all_cons, List.all_nil]
    generalize putL (w3.alloc (.cells #[vi 0, vi 0] 70)) w3.heap.size 0 [vi x, vi m] = w4 at *
    generalize w3.heap.size = b9 at *
    have d1 : decide (x < 0) = false := by simp; omega
    have d2 : decide (x > m) = false := by simp; omega
    simp only [(rIA105 b9).1.o, (rIA105 b9).2.o, c9, d1, d2, ↓RV9, ↓RI, ↓RB, ↓RSs, ↓RT9, ↓RT7, ↓RT, ↓RG, RV, Lc, cond_true, cond_false, Is.step (show k ≤ 1000000001 by omega)]
    exact ⟨⟨k + 1, rfl, by omega, ho3.trans ho4, ⟨h3.old.trans ho4, ho4.heap h3.b3, ho4.heap h3.b4⟩⟩, by simp only [UnM, Int.toNat_natCast]; omega⟩
   ·have hg := readS_good hres
    have hsz3 := ho3.size
    have hni : IntsAt w2 nv (pg.nums.map fun n : Nat => (n : Int)) := by
     have hh : w2.ownsRow w1.heap.size 3 1 nv (pg.nums.map fun n : Nat => (n : Int)).length ((pg.nums.map fun n : Nat => (n : Int)).map vi) := by
      rw [List.length_map, List.map_map]; exact hnums
     exact (OwnInts hh).1
    simp only [↓RV9, ↓RI, ↓RB, ↓RSs, ↓RT9, ↓RT7, ↓RT, ↓RG, RV, h3.b3, row5all]
    refine cl_of (analyze_walk (d := 0) (a := a) (gas := gas) (by decide) hg (by omega) (by omega) (by omega) hgas (by omega) (ho3.heap hn) (hrow.keep' (fun c _ hc => Nat.lt_of_lt_of_le hc hsz3) (fun c cs t _ _ hn => ho3.heap hn)) (hsts.keep' (fun c _ hc => Nat.lt_of_lt_of_le hc hsz3) (fun c cs t _ _ hn => ho3.heap hn) ho3.keepS) (hni.old ho3) (by omega) hsol) ?_
    rintro e w4 ⟨rb, sb, rfl, ho4, hrb, hsb⟩
    have d4 := ho4.heap h3.b4
    have e4 := putSp (p := .slice (some ⟨rb, 0, none⟩) pg.points pg.points) (q := .slice (some ⟨sb, 0, none⟩) pg.sites pg.sites) d4
    simp only [endK, ↓RV9, ↓RI, ↓RB, ↓RSs, ↓RT9, ↓RT7, ↓RT, ↓RG, RV, Lc, d4, e4, isOne, List.all_cons, List.all_nil]
    refine ⟨(h3.old.trans ho4).putL (by omega), a, rb, sb, hsol, rfl, ?_, ?_⟩
    ·rw [heap_putL_ne (by rintro rfl; rw [d4] at hrb; injection hrb with hh; injection hh with _ hh; exact absurd hh (by decide))]; exact hrb
    ·rw [heap_putL_ne (by rintro rfl; rw [d4] at hsb; injection hsb with hh; injection hh with _ hh; exact absurd hh (by decide))]; exact hsb
end Go.Inv
namespace Go.Inv
open Go.Sh
def kSrc : Bytes := [97, 32, 61, 32, 54, 59, 32, 98, 32, 61, 32, 97, 32, 47, 32, 50, 59, 32, 114, 101, 97, 100, 32, 99, 59, 32, 97, 115, 115, 101, 114, 116, 32, 99, 32, 33, 61, 32, 49, 59]
def kPg : Prog := ⟨.cons (.set 0 0 (.num 6)) (.cons (.set 1 1 (.two 47 (.name 0) (.num 2) 0)) (.cons (.get 2 2) (.cons (.assert 3 ⟨.name 2, .num 1, 5⟩ 1) .nil))), 5, 2, [6, 2, 1]⟩
theorem k_read : readS kSrc (steps kSrc) = some (.ok kPg) := by kernel_rfl
end Go.Inv
namespace Go.Inv
open Go.Sh
def aK : AS Span := ((solveA (spans []) ⟨0, 0, 0⟩ 1 kPg).getD ⟨[], []⟩)
theorem k_sol : solveA (spans []) ⟨0, 0, 0⟩ 1 kPg = some aK := by kernel_rfl
theorem k_row : blkRow (some (.cells (fcA spE aK.facts) 54 (0, 0))) 71 2 = some (.agg #[vi 3, vi 3]) := by kernel_rfl
theorem k_some : (fcA spE aK.facts)[68]? = some (.bool true) := by kernel_rfl
theorem k_site0 : ((aK.sites.map fun n : Nat => vi n).toArray)[0]? = some (vi 1) := by kernel_rfl
theorem k_site1 : ((aK.sites.map fun n : Nat => vi n).toArray)[1]? = some (vi 2) := by kernel_rfl
theorem bd_45z (w : World) : (sBuild 26 [(0, vi 0)]).run pr w = .ok (.value (cfgV 0 ⟨0, 0, 0⟩ false)) w := by kernel_rfl
theorem al_100 (w : World) : (sAlloc 51).run pr w = .ok (.value (pt w.heap.size 0)) (w.alloc (.cells #[vi 0, vi 0] 51)) := by kernel_rfl
theorem ia47_4 (b : Nat) : Pur pr (sIA 39 (.slice (some ⟨b, 0, none⟩) 5 5) (vi 4)) (pt b 68) := rIA47 b 5 5 4 (by decide)
theorem ia101_1 (b : Nat) : Pur pr (sIA 52 (pt b 69) (vi 1)) (pt b 71) := rIA101 b 69 1 (by decide)
theorem ia22_0 (b : Nat) : Pur pr (sIA 22 (.slice (some ⟨b, 0, none⟩) 2 2) (vi 0)) (pt b 0) := rIAs22 b 2 2 0 (by decide)
theorem ia22_1 (b : Nat) : Pur pr (sIA 22 (.slice (some ⟨b, 0, none⟩) 2 2) (vi 1)) (pt b 1) := rIAs22 b 2 2 1 (by decide)
theorem knows_ok {w : World} (hrel : RelsAt w) : Calls pr n_law_knows #[vi 0] w fun e w' => e = .returned (.bool true) ∧ Old w w' := by
 refine sh_law_knows_ok _ _ _ ?_
 unfold sh_law_knows
 simp only [↓o_val (bd_45z _)]
 refine cl_of (anl_ok (src := kSrc) (gas := 1) hrel k_read (by decide) (by decide) (fun pg h => by cases h; exact ⟨aK, k_sol⟩)) ?_
 rintro e w2 ⟨ho2, a, rb, sb, hsol, rfl, hrb, hsb⟩
 have ha : a = aK := by
  have : solveA (spans []) ⟨0, 0, 0⟩ 1 kPg = some a := hsol
  rw [k_sol] at this; exact (Option.some.inj this).symm
 subst ha
 have jz : (w2.alloc (.cells #[.slice none 0 0, .slice none 0 0] 41)).heap[w2.heap.size]? = some (.cells #[.slice none 0 0, .slice none 0 0] 41) := heap_alloc_self _
 have c3 := putSp (p := .slice (some ⟨rb, 0, none⟩) 5 5) (q := .slice (some ⟨sb, 0, none⟩) 2 2) jz
 have ho3 : Old w2 (putL (w2.alloc (.cells #[.slice none 0 0, .slice none 0 0] 41)) w2.heap.size 0 [.slice (some ⟨rb, 0, none⟩) 5 5, .slice (some ⟨sb, 0, none⟩) 2 2]) := ((Old.refl w2).alloc _).putL (Nat.le_refl _)
 simp only [endK, show kPg.points = 5 from rfl, show kPg.sites = 2 from rfl, ↓RV9, ↓RI, ↓RB, ↓RSs, ↓RT9, ↓RT7, ↓RT, ↓RG, RV, Lc, jz, isOne, List.all_cons, List.all_nil]
 generalize putL (w2.alloc (.cells #[.slice none 0 0, .slice none 0 0] 41)) w2.heap.size 0 [.slice (some ⟨rb, 0, none⟩) 5 5, .slice (some ⟨sb, 0, none⟩) 2 2] = w3 at *
 generalize w2.heap.size = b3 at *
 refine cl_of (tell_nil w3) ?_
 rintro e w4 ⟨rfl, ho4⟩
 simp only [endK, ↓RV9, ↓RI, ↓RB, ↓RSs, ↓RT9, ↓RT7, ↓RT, ↓RG, RV]
 refine cl_of (num_ok _ _) ?_
 rintro e w5 ⟨rfl, rfl⟩
 have d3 := ho4.heap c3
 have drb := ho4.heap (ho3.heap hrb)
 have dsb := ho4.heap (ho3.heap hsb)
 simp only [endK, ↓RV9, ↓RI, ↓RB, ↓RSs, ↓RT9, ↓RT7, ↓RT, ↓RG, RV, Lc, d3, cond_true, cond_false]
 have z0 : (((0 : Nat) : Int) != 0) = false := rfl
 have z5 : (((5 : Nat) : Int) != 5) = false := rfl
 have z2 : (((2 : Nat) : Int) != 2) = false := rfl
 have kz : (w5.alloc (.cells #[vi 0, vi 0] 51)).heap[w5.heap.size]? = some (.cells #[vi 0, vi 0] 51) := heap_alloc_self _
 have c7 := putSp (p := vi 3) (q := vi 3) kz
 have ho6 : Old w5 (putL (w5.alloc (.cells #[vi 0, vi 0] 51)) w5.heap.size 0 [vi 3, vi 3]) := ((Old.refl w5).alloc _).putL (Nat.le_refl _)
 simp only [z0, z5, z2, ↓RV9, ↓RI, ↓RB, ↓RSs, ↓RT9, ↓RT7, ↓RT, ↓RG, RV, Lc, d3, drb, k_row, (ia47_4 rb).o, (ia101_1 rb).o, Nat.reduceAdd, cond_true, cond_false, ↓o_val (al_100 _), kz, List.all_cons, List.all_nil]
 generalize putL (w5.alloc (.cells #[vi 0, vi 0] 51)) w5.heap.size 0 [vi 3, vi 3] = w6 at *
 generalize w5.heap.size = b7 at *
 have f3 := ho6.heap d3
 have frb := ho6.heap drb
 have fsb := ho6.heap dsb
 have y3 : ((3 : Int) == 3) = true := rfl
 have y1 : ((1 : Int) == 1) = true := rfl
 have y2 : ((2 : Int) == 2) = true := rfl
 simp only [y1, y2, y3, ↓RV9, ↓RI, ↓RB, ↓RSs, ↓RT9, ↓RT7, ↓RT, ↓RG, RV, Lc, f3, frb, fsb, k_some, k_site0, k_site1, c7, (ia47_4 rb).o, (ia22_0 sb).o, (ia22_1 sb).o, cond_true, cond_false]
 exact ((ho2.trans ho3).trans ho4).trans ho6
end Go.Inv
namespace Go.Inv
open Go.Sh
def hasV (d a b n : Int) : Bool := if d = 0 then decide (a ≤ n) && decide (n ≤ b) else if a = 0 then n == b else decide (a > 0) && ((n - b).tmod a == 0)
theorem remJ {a b : Int} (hb : b ≠ 0) : intV .rem .i64 a b = some (vi (a.tmod b)) := by simp only [intV, if_neg hb]
theorem has_ok {d a b n : Int} (ha : -1000000000 ≤ a ∧ a ≤ 1000000000) (hb : -1000000000 ≤ b ∧ b ≤ 1000000000) (hn : -1000000000 ≤ n ∧ n ≤ 1000000000) (w : World) :
 Calls pr n_law_has #[vi d, .agg #[vi a, vi b], vi n] w (Ret (.bool (hasV d a b n)) w) := by
 refine sh_law_has_ok _ _ _ _ _ ?_
 unfold sh_law_has
 have ho : Old w (w.alloc (.cells #[vi a, vi b] 51)) := (Old.refl w).alloc _
 have hv : (w.alloc (.cells #[vi a, vi b] 51)).heap[w.heap.size]? = some (.cells #[vi a, vi b] 51 (0, 0)) := heap_alloc_self _
 have hw : IntKind.i64.wrap (n - b) = n - b := wr (by omega) (by omega)
 simp only [↓RVal, ↓RL, ↓RM, ↓RT9, ↓RT5, ↓RT, ↓RG, RV, agg_cells]
 generalize w.alloc (.cells #[vi a, vi b] 51) = w1 at *
 refine condJ (p := d = 0) rfl (fun h => ?_) (fun h => ?_)
 ·simp only [hv, ↓RVal, ↓RL, ↓RM, ↓RT9, ↓RT5, ↓RT, ↓RG, RV]
  cases hle : decide (a ≤ n)
  ·exact condG_split (fun h4 => by cases h4) (fun _ => ⟨by unfold hasV; rw [if_pos h, hle]; rfl, ho⟩)
  ·exact condG_split (fun _ => ⟨by unfold hasV; rw [if_pos h, hle]; rfl, ho⟩) (fun h4 => absurd rfl h4)
 ·simp only [hv, ↓RVal, ↓RL, ↓RM, ↓RT9, ↓RT5, ↓RT, ↓RG, RV]
  refine condJ (p := a = 0) rfl (fun h2 => ?_) (fun h2 => ?_)
  ·exact ⟨by unfold hasV; rw [if_neg h, if_pos h2], ho⟩
  ·simp only [hv, hw, remJ h2, ↓RVal, ↓RL, ↓RM, ↓RT9, ↓RT5, ↓RT, ↓RG, RV]
   cases hle : decide (a > 0)
   ·exact condG_split (fun h4 => by cases h4) (fun _ => ⟨by unfold hasV; rw [if_neg h, if_neg h2, hle]; rfl, ho⟩)
   ·exact condG_split (fun _ => ⟨by unfold hasV; rw [if_neg h, if_neg h2, hle]; rfl, ho⟩) (fun h4 => absurd rfl h4)
end Go.Inv
namespace Go.Inv
open Go.Sh
theorem row_inv {b : Option Obj} {i n : Nat} {xs : Array Value} (h : blkRow b i n = some (.agg xs)) : ∃ cs t f, b = some (.cells cs t f) ∧ i + n ≤ cs.size ∧ xs = cs.extract i (i + n) := by
 unfold blkRow at h
 split at h
 ·split at h
  ·cases h; exact ⟨_, _, _, rfl, by assumption, rfl⟩
  ·cases h
 ·cases h
theorem row_sub {b : Option Obj} {i n j m : Nat} {xs : Array Value} (h : blkRow b i n = some (.agg xs)) (hj : j + m ≤ n) (t : Nat) (f : Nat × Nat) : blkRow b (i + j) m = blkRow (some (.cells xs t f)) j m := by
 obtain ⟨cs, t', f', rfl, hs, rfl⟩ := row_inv h
 have hz : (cs.extract i (i + n)).size = n := by simp; omega
 unfold blkRow
 simp only
 rw [if_pos (by omega), if_pos (by omega)]
 congr 2
 rw [Array.extract_extract]
 congr 1
 omega
theorem row_cell {b : Option Obj} {i n j : Nat} {xs : Array Value} (h : blkRow b i n = some (.agg xs)) (hj : j < n) : blkCell b (i + j) = xs[j]? := by
 obtain ⟨cs, t', f', rfl, hs, rfl⟩ := row_inv h
 show cs[i + j]? = _
 rw [Array.getElem?_extract, if_pos (by omega)]
theorem VisAt.cells {B : Nat} {w : World} {v : Value} {vs : List (Nat × Store)} (h : VisAt B w v vs) {k p : Nat} {s : Store} (h8 : Vis8 vs) (hk : vs[k]? = some (p, s)) :
 ∃ g cap, v = .slice (some ⟨g, 0, none⟩) vs.length cap ∧ blkCell (w.heap[g]?) (k * 9) = some (vi p) ∧ ∀ j, j < 8 → blkCell (w.heap[g]?) (k * 9 + 1 + j) = some (i16 (s.getD j 0)) := by
 obtain ⟨g, cap, rfl, hr⟩ := h.row h8 hk
 have hs8 : s.length = 8 := h8 _ (List.mem_of_getElem? hk)
 refine ⟨g, cap, rfl, ?_, fun j hj => ?_⟩
 ·have := row_cell (j := 0) hr (by decide)
  rw [Nat.zero_add, Nat.add_zero] at this
  rw [this]; simp
 ·have := row_cell (j := 1 + j) hr (by omega)
  rw [Nat.zero_add, ← Nat.add_assoc] at this
  rw [this]
  simp [Nat.add_comm 1 j, List.getD_eq_getElem?_getD, List.getElem?_eq_getElem (show j < s.length by omega)]
section
variable {V : Type} (e : Emb V)
theorem fc_some {fs : List (St V)} {i t : Nat} {f : Nat × Nat} (d : St V) (h : ∀ x ∈ fs, x.vars.length = 8) (hi : i < fs.length) : blkCell (some (.cells (fcA e fs) t f)) (i * 17) = some (.bool (fs.getD i d).some) := by
 have := row_cell (j := 0) (fc_get e (t := t) (f := f) d h hi) (by decide)
 rw [Nat.add_zero] at this
 rw [this]; simp [stA, stL]
theorem fc_var {fs : List (St V)} {i t v : Nat} {f : Nat × Nat} (d : St V) (z : V) (h : ∀ x ∈ fs, x.vars.length = 8) (hi : i < fs.length) (hv : v < 8) :
 blkRow (some (.cells (fcA e fs) t f)) (i * 17 + 1 + v * 2) 2 = some (e.v ((fs.getD i d).vars.getD v z)) := by
 rw [Nat.add_assoc, row_sub (fc_get e (t := t) (f := f) d h hi) (by omega) t f]
 exact st_get e z (h _ (mem_getD hi)) hv
def RepG (w : World) (r : Value) : Option (List (St V) × List Nat) → Prop
 | none => r = .agg #[.slice none 0 0, .slice none 0 0]
 | some (fs, ss) => ∃ rb sb, r = .agg #[.slice (some ⟨rb, 0, none⟩) fs.length fs.length, .slice (some ⟨sb, 0, none⟩) ss.length ss.length] ∧ fs.length ≤ 1000000000 ∧ ss.length ≤ 1000000000 ∧ (∀ x ∈ fs, x.vars.length = 8) ∧
  w.heap[rb]? = some (.cells (fcA e fs) 54 (0, 0)) ∧ w.heap[sb]? = some (.cells (ss.map fun n : Nat => vi n).toArray 3 (0, 0))
variable {e}
theorem RepG.old {w w' : World} {r : Value} {x : Option (List (St V) × List Nat)} (h : RepG e w r x) (ho : Old w w') : RepG e w' r x := by
 match x with
 | none => exact h
 | some (fs, ss) =>
   obtain ⟨rb, sb, h1, h2, h3, h4, h5, h6⟩ := h
   exact ⟨rb, sb, h1, h2, h3, h4, ho.heap h5, ho.heap h6⟩
theorem RepG.two {w : World} {r : Value} {x : Option (List (St V) × List Nat)} (h : RepG e w r x) : ∃ p q, r = .agg #[p, q] ∧ isOne p = true ∧ isOne q = true := by
 match x with
 | none => exact ⟨_, _, h, rfl, rfl⟩
 | some (fs, ss) =>
   obtain ⟨rb, sb, h1, -⟩ := h
   exact ⟨_, _, h1, rfl, rfl⟩
end
def AnlQ {V : Type} (e : Emb V) (w : World) (rep : Option (List (St V) × List Nat) × Nat) : Ending → World → Prop := fun en w' => Old w w' ∧ ∃ r ev, en = .returned (.tuple #[r, ev]) ∧ RepG e w' r rep.1 ∧
 ∀ w'', Old w' w'' → ErrTy w'' → ∃ a, Calls pr n_api_Tell #[ev] w'' (TellP w'' rep.2 a)
end Go.Inv
namespace Go.Inv
open Go.Sh
theorem o_traceVar {E : PanicK} {K : Value → World → Prop} {v : Value} {s : Int} {w : World} (h1 : isOne v = true)
 (hK : ∀ w', Old w w' → w'.heap[w.heap.size]? = some (.cells #[v, vi s] tyTrace (0, 0)) → K (pt w.heap.size 0) w') :
 o pr E w (sAlloc tyTrace) fun t w => o pr E w (sStore tyTrace t (.agg #[v, vi s])) fun _ w => K t w := by
 simp only [o_val (al_Trace _)]
 have ho : Old w (w.alloc (.cells #[.slice none 0 0, vi 0] tyTrace)) := (Old.refl w).alloc _
 have ha : (w.alloc (.cells #[.slice none 0 0, vi 0] tyTrace)).heap[w.heap.size]? = some (.cells #[.slice none 0 0, vi 0] tyTrace (0, 0)) := heap_alloc_self _
 generalize w.alloc (.cells #[.slice none 0 0, vi 0] tyTrace) = w1 at *
 have hrow : okRow (w1.heap[w.heap.size]?) 0 2 = true := by rw [ha]; rfl
 have hvi : isOne (vi s) = true := rfl
 simp only [↓RT2, ↓RT9, ↓RG, RV, hrow, h1, hvi, Bool.and_self, List.all_cons, List.all_nil, decide_true, ifc_true, putL]
 refine hK _ ((ho.put (Nat.le_refl _)).put (Nat.le_refl _)) ?_
 rw [heap_put_self, heap_put_self, ha]; rfl
theorem o_repVar {E : PanicK} {K : Value → World → Prop} {p q : Value} {w : World} (h1 : isOne p = true) (h2 : isOne q = true)
 (hK : ∀ w', Old w w' → w'.heap[w.heap.size]? = some (.cells #[p, q] 41 (0, 0)) → K (pt w.heap.size 0) w') :
 o pr E w (sAlloc 41) fun t w => o pr E w (sStore 41 t (.agg #[p, q])) fun _ w => K t w := by
 simp only [o_val (al_49 _)]
 have ho : Old w (w.alloc (.cells #[.slice none 0 0, .slice none 0 0] 41)) := (Old.refl w).alloc _
 have ha : (w.alloc (.cells #[.slice none 0 0, .slice none 0 0] 41)).heap[w.heap.size]? = some (.cells #[.slice none 0 0, .slice none 0 0] 41 (0, 0)) := heap_alloc_self _
 generalize w.alloc (.cells #[.slice none 0 0, .slice none 0 0] 41) = w1 at *
 have hrow : okRow (w1.heap[w.heap.size]?) 0 2 = true := by rw [ha]; rfl
 simp only [↓RT9, ↓RG, RV, hrow, h1, h2, Bool.and_self, List.all_cons, List.all_nil, decide_true, ifc_true, putL]
 refine hK _ ((ho.put (Nat.le_refl _)).put (Nat.le_refl _)) ?_
 rw [heap_put_self, heap_put_self, ha]; rfl
def SnI (w1 : World) (n : Nat) (vs : List Value) (w' : World) : Prop := ∃ k : Nat, vs = [vi k] ∧ k ≤ n ∧ Old w1 w'
theorem rIA59 (g n c i : Nat) (h : i < n) : Pur pr (sIA 32 (.slice (some ⟨g, 0, none⟩) n c) (vi i)) (pt g (i * 9)) := by
 have := pur_IAs (b := g) (off := 0) (n := n) (c := c) el32 (Int.natCast_nonneg i) (by omega : (i : Int) < n)
 simpa using this
theorem rIA57 (b o v : Nat) (h : v < 8) : Pur pr (sIA 57 (pt b o) (vi v)) (pt b (o + v)) := by
 have := pur_IAa (b := b) (off := o) el57 (Int.natCast_nonneg v) (by omega : (v : Int) < (8 : Nat))
 simpa using this
theorem i16_64 {n : Int} (h1 : -32768 ≤ n) (h2 : n ≤ 32767) : IntKind.i64.wrap n = n := wr (by omega) (by omega)
structure Within {V : Type} (e : Emb V) (d : Int) (vs : List (Nat × Store)) (stop : Int) (fs : List (St V)) (ss : List Nat) (z : V) (dz : St V) : Prop where
 n : vs.length ≤ 100000
 v8 : Vis8 vs
 i16 : ∀ v ∈ vs, ∀ k, I16 (v.2.getD k 0)
 pt : ∀ v ∈ vs, v.1 < fs.length ∧ (fs.getD v.1 dz).some = true
 sml : ∀ v ∈ vs, ∀ k, k < 8 → (-1000000000 ≤ e.a ((fs.getD v.1 dz).vars.getD k z) ∧ e.a ((fs.getD v.1 dz).vars.getD k z) ≤ 1000000000) ∧ (-1000000000 ≤ e.b ((fs.getD v.1 dz).vars.getD k z) ∧ e.b ((fs.getD v.1 dz).vars.getD k z) ≤ 1000000000)
 has : ∀ v ∈ vs, ∀ k, k < 8 → hasV d (e.a ((fs.getD v.1 dz).vars.getD k z)) (e.b ((fs.getD v.1 dz).vars.getD k z)) (v.2.getD k 0) = true
 stop : 0 ≤ stop → stop < ss.length ∧ ss.getD stop.toNat 0 = 2
theorem sound_ok {V : Type} {e : Emb V} {w : World} {src : Bytes} {v : Value} {l : List Int} {d : Int} {cfg : Cfg} {thr : Bool} {rep : Option (List (St V) × List Nat) × Nat} {z : V} {dz : St V}
 (hrel : RelsAt w) (herr : ErrTy w) (hl : IntsAt w v l) (hlen : l.length ≤ 1100000)
 (hA : ∀ w', Old w w' → Calls pr n_inv_Analyze #[.string (S src), cfgV d cfg thr] w' (AnlQ e w' rep))
 (hbad : (outc (invRun src (l.map w16) 300)).2 ≠ 0 ∨ rep.2 ≠ 0 → (outc (invRun src (l.map w16) 300)).2 = rep.2)
 (hgood : (outc (invRun src (l.map w16) 300)).2 = 0 → rep.2 = 0 → ∃ fs ss, rep.1 = some (fs, ss) ∧ Within e d (outc (invRun src (l.map w16) 300)).1.1 (outc (invRun src (l.map w16) 300)).1.2 fs ss z dz) :
 Calls pr n_law_sound #[.string (S src), v, cfgV d cfg thr] w (TrueP w) := by
 refine sh_law_sound_ok _ _ _ _ _ ?_
 unfold sh_law_sound
 have ho1 : Old w (w.alloc (.cells #[vi d, vi cfg.delay, vi cfg.narrow, vi cfg.unroll, .bool thr] 26)) := (Old.refl w).alloc _
 have b1 : (w.alloc (.cells #[vi d, vi cfg.delay, vi cfg.narrow, vi cfg.unroll, .bool thr] 26)).heap[w.heap.size]? = some (.cells #[vi d, vi cfg.delay, vi cfg.narrow, vi cfg.unroll, .bool thr] 26 (0, 0)) := heap_alloc_self _
 simp only [cfgV, ↓RT9, ↓RT7, ↓RT, ↓RG, RV, agg_cells]
 generalize w.alloc (.cells #[vi d, vi cfg.delay, vi cfg.narrow, vi cfg.unroll, .bool thr] 26) = w1 at *
 generalize w.heap.size = bc at *
 refine cl_of (inputs_ok (hl.old ho1) hlen) ?_
 rintro _ w2 ⟨ho2, va, vb, rfl, hia, -⟩
 have ho2' := ho1.trans ho2
 simp only [endK, ↓RT9, ↓RT, ↓RG, RV]
 refine cl_of (inv_ok (src := src) (fuel := 300) (hrel.old ho2') hia (ins_ok l)) ?_
 rintro en w3 h3
 obtain ⟨ho3, vv, ev, rfl, hv, ht⟩ := InvP.outc h3
 generalize outc (invRun src (l.map w16) 300) = oc at *
 obtain ⟨⟨vs, stop⟩, x⟩ := oc
 simp only at hv ht hbad hgood
 simp only [endK, ↓RT9, ↓RT, ↓RG, RV]
 refine o_traceVar hv.one ?_
 intro w4 ho4 b4
 have ho4' := (ho2'.trans ho3).trans ho4
 have c4 := ((ho2.trans ho3).trans ho4).heap b1
 have hv4 := hv.old ho4
 generalize w3.heap.size = bt at *
 simp only [↓RT9, ↓RT, ↓RG, RV, c4, okOf_some, row5all]
 have hA' := hA w4 ho4'
 simp only [cfgV] at hA'
 refine cl_of hA' ?_
 rintro _ w5 ⟨ho5, r, ev2, rfl, hr, ht2⟩
 obtain ⟨p, q, rfl, hp, hq⟩ := hr.two
 simp only [endK, ↓RT9, ↓RT, ↓RG, RV]
 refine o_repVar hp hq ?_
 intro w6 ho6 b6
 have ho6' := (ho4'.trans ho5).trans ho6
 have c6 := (ho5.trans ho6).heap c4
 have d6 := (ho5.trans ho6).heap b4
 have hv6 := hv4.old (ho5.trans ho6)
 have hr6 := hr.old ho6
 generalize w5.heap.size = br at *
 obtain ⟨a1, t1⟩ := ht w6 ((ho4.trans ho5).trans ho6) (herr.old ho6')
 refine cl_of t1 ?_
 rintro _ w7 ⟨rfl, ho7⟩
 simp only [endK, ↓RT9, ↓RT, ↓RG, RV]
 obtain ⟨a2, t2⟩ := ht2 w7 (ho6.trans ho7) (herr.old (ho6'.trans ho7))
 refine cl_of t2 ?_
 rintro _ w8 ⟨rfl, ho8⟩
 have ho8' := (ho6'.trans ho7).trans ho8
 have b8 := (ho7.trans ho8).heap b6
 have c8 := (ho7.trans ho8).heap c6
 have d8 := (ho7.trans ho8).heap d6
 have hv8 := hv6.old (ho7.trans ho8)
 have hr8 := hr6.old (ho7.trans ho8)
 clear hv hv4 hv6 hr hr6 c4 c6 d6 b6 ht ht2 hA hA' h3
 simp only [endK, ↓RT9, ↓RT, ↓RG, RV]
 refine cl_of (num_ok _ w8) ?_
 rintro _ w9 ⟨rfl, rfl⟩
 simp only [endK, ↓RT9, ↓RT, ↓RG, RV]
 by_cases hx : x = 0 ∧ rep.2 = 0
 ·obtain ⟨hx0, hr0⟩ := hx
  subst hx0
  obtain ⟨fs, ss, hrep, hW⟩ := hgood rfl hr0
  rw [hrep] at hr8
  obtain ⟨rb, sb, hpq, lf, ls, l8, rf, rs⟩ := hr8
  obtain ⟨rfl, rfl⟩ : p = .slice (some ⟨rb, 0, none⟩) fs.length fs.length ∧ q = .slice (some ⟨sb, 0, none⟩) ss.length ss.length := by
   simpa using hpq
  have z0 : (((0 : Nat) : Int) != 0) = false := rfl
  simp only [z0, ↓RT9, ↓RT, ↓RG, RV, condG_yes]
  refine cl_of (num_ok _ w9) ?_
  rintro _ w10 ⟨rfl, rfl⟩
  rw [hr0]
  simp only [z0, endK, ↓RT9, ↓RT, ↓RG, RV, cond_false, condP_false]
  obtain ⟨av, cv, hvs⟩ := hv8.slice
  refine ⟨SnI w10 vs.length, UnM vs.length, ⟨0, rfl, Nat.zero_le _, Old.refl _⟩, ?_⟩
  rintro e1 w11 ⟨i, he, hi, ho11⟩
  have c11 := ho11.heap c8
  have b11 := ho11.heap b8
  have d11 := ho11.heap d8
  have f11 := ho11.heap rf
  have s11 := ho11.heap rs
  have hv11 := hv8.old ho11
  have e17 : e1 17 = vi i := by simpa using he
  have hvn := hW.n
  rw [e17]
  rw [hvs] at d11
  simp only [d11, ↓RT9, ↓RT, ↓RG, RV]
  refine condJ (p := i < vs.length) (by simp only [decide_eq_decide]; omega) (fun hlt => ?_) (fun hlt => ?_)
  ·obtain ⟨⟨pp, st⟩, hps⟩ : ∃ x, vs[i]? = some x := ⟨_, List.getElem?_eq_getElem hlt⟩
   have hmem := List.mem_of_getElem? hps
   obtain ⟨g, cap, q1, r1, r2⟩ := hv11.cells hW.v8 hps
   rw [hvs] at q1; cases q1
   obtain ⟨hpf, hsm⟩ := hW.pt _ hmem
   simp only at hpf hsm
   have hsome := fc_some e (t := 54) (f := (0, 0)) dz l8 hpf
   rw [hsm] at hsome
   have p0 : decide (((pp : Nat) : Int) < 0) = false := decide_eq_false (by omega)
   have p1 : decide (((pp : Nat) : Int) ≥ ((fs.length : Nat) : Int)) = false := decide_eq_false (by omega)
   have k1 := rIA59 g vs.length cv i hlt
   have k2 := rIA47 rb fs.length fs.length pp hpf
   simp only [k1.o, r1, Nat.add_zero, p0, p1, b11, k2.o, f11, hsome, ↓RT9, ↓RT, ↓RG, RV, condG_yes, condP_false, cond_false, Bool.not_true]
   refine ⟨SnI w11 8, UnM 8, ⟨0, rfl, Nat.zero_le _, Old.refl _⟩, ?_⟩
   rintro e2 w12 ⟨k, he2, hk, ho12⟩
   have c12 := ho12.heap c11
   have b12 := ho12.heap b11
   have d12 := ho12.heap d11
   have f12 := ho12.heap f11
   have e19 : e2 19 = vi k := by simpa using he2
   rw [e19]
   simp only [↓RT9, ↓RT, ↓RG, RV]
   refine condJ (p := k < 8) (by simp only [decide_eq_decide]; omega) (fun hk8 => ?_) (fun hk8 => ?_)
   ·obtain ⟨g', cap', q2, -, r3⟩ := (hv11.old ho12).cells hW.v8 hps
    rw [hvs] at q2; cases q2
    have r4 := r3 k hk8
    have hvar := fc_var e (t := 54) (f := (0, 0)) dz z l8 hpf hk8
    have h16 := hW.i16 _ hmem k
    have k3 := rIA101 rb (pp * 17 + 1) k hk8
    have k4 := rIA57 g (i * 9 + 1) k hk8
    have cw := i16_64 h16.1 h16.2
    simp only [c12, b12, d12, f12, k1.oz, k2.oz, k3.oz, k4.oz, r4, hvar, cw, ↓RT9, ↓RT, ↓RG, RV]
    obtain ⟨s1, s2⟩ := hW.sml _ hmem k hk8
    refine cl_of (has_ok s1 s2 (by unfold I16 at h16; simp only at h16; omega) _) ?_
    rintro _ w13 ⟨rfl, ho13⟩
    rw [hW.has _ hmem k hk8]
    simp only [endK, ↓RT9, ↓RT, ↓RG, RV, Bool.not_true, condP_false, Is.step (show k ≤ 1000000001 by omega)]
    exact ⟨⟨k + 1, rfl, hk8, (ho12.dr).trans ho13⟩, by simp only [UnM, Int.toNat_natCast]; omega⟩
   ·simp only [↓RT9, ↓RT, ↓RG, RV, Is.step (show i ≤ 1000000001 by omega)]
    exact ⟨⟨i + 1, rfl, hlt, ho11.trans ho12⟩, by simp only [UnM, Int.toNat_natCast]; omega⟩
  ·have ho11' := ho8'.trans ho11
   try simp only [d11, ↓RT9, ↓RT, ↓RG, RV]
   refine condJ (p := 0 ≤ stop) (by simp only [ge_iff_le]) (fun hs0 => ?_) (fun hs0 => ?_)
   ·obtain ⟨q1, q2⟩ := hW.stop hs0
    obtain ⟨sn, rfl⟩ : ∃ n : Nat, stop = n := ⟨stop.toNat, by omega⟩
    have hsn : sn < ss.length := by omega
    have t1 : decide (((sn : Nat) : Int) < ((ss.length : Nat) : Int)) = true := decide_eq_true (by omega)
    have k5 := rIAs22 sb ss.length ss.length sn hsn
    have g5 : blkCell (some (.cells ((ss.map fun n : Nat => vi n).toArray) 3 (0, 0))) sn = some (vi (ss.getD sn 0 : Nat)) := getSite hsn
    rw [Int.toNat_natCast] at q2
    rw [q2] at g5
    simp only [d11, b11, t1, k5.o, s11, g5, ↓RT9, ↓RT, ↓RG, RV, condG_yes, cond_true]
    exact ⟨ho11', rfl⟩
   ·exact ⟨ho11', rfl⟩
 ·have hne : x = rep.2 := hbad (by omega)
  have hx0 : x ≠ 0 := by omega
  have z1 : ((x : Int) != 0) = true := by simp; omega
  simp only [z1, ↓RT9, ↓RT, ↓RG, RV, cond_true]
  refine cl_of (num_ok _ w9) ?_
  rintro _ w10 ⟨rfl, rfl⟩
  simp only [endK, ↓RT9, ↓RT, ↓RG, RV]
  refine cl_of (num_ok _ w10) ?_
  rintro _ w11 ⟨rfl, rfl⟩
  rw [← hne]
  have z2 : ((x : Int) == (x : Int)) = true := by simp
  simp only [endK, z2, ↓RT9, ↓RT, ↓RG, RV]
  exact ⟨ho8', rfl⟩
end Go.Inv
namespace Go.Inv
open Go.Sh
abbrev GAS : Nat := 1000000
section
variable {V : Type} [DecidableEq V] {D : Dom V} {O : DomOk D} {e : Emb V} {d : Int}
theorem within_of (hmem : ∀ x n, O.inv x → O.mem x n → I16 n → hasV d (e.a x) (e.b x) n = true)
 (hsml : ∀ x, O.inv x → (-1000000000 ≤ e.a x ∧ e.a x ≤ 1000000000) ∧ (-1000000000 ≤ e.b x ∧ e.b x ≤ 1000000000))
 {cfg : Cfg} {g : Nat} {p : Prog} (hp : ProgG p) {a : AS V} (h : solveA D cfg g p = some a) {inp : List Int} (hin : InpOk inp) {fuel : Nat} (hf : fuel ≤ 100000) :
 Within e d (runS p inp fuel).1 (runS p inp fuel).2 a.facts a.sites D.zeroV (noS D) := by
 obtain ⟨hi, hfine, hal⟩ := solve_sound (O := O) hp h hin fuel
 have h8 := runS8 p inp fuel
 have h16 := runS_i16 hp hin fuel
 have hpt : ∀ v ∈ (runS p inp fuel).1, v.1 < a.facts.length ∧ (a.facts.getD v.1 (noS D)).some = true := fun v hv => by
  have hm := (hfine v hv).1
  refine ⟨?_, hm⟩
  by_cases hlt : v.1 < a.facts.length
  ·exact hlt
  ·rw [List.getD_eq_getElem?_getD, List.getElem?_eq_none (by omega)] at hm
   exact absurd hm (by simp [noS])
 have hinv : ∀ v ∈ (runS p inp fuel).1, ∀ k, k < 8 → O.inv ((a.facts.getD v.1 (noS D)).vars.getD k D.zeroV) := fun v hv k hk =>
  ((hi.fi v.1).yes (hpt v hv).2).2 k hk
 refine ⟨by have := h8.2; omega, h8.1, fun v hv k => (h16 v hv).rng k, hpt, fun v hv k hk => hsml _ (hinv v hv k hk), fun v hv k hk => hmem _ _ (hinv v hv k hk) ((hfine v hv).2 k hk) ((h16 v hv).rng k), fun hs => ?_⟩
 have := hal hs
 unfold Alarm at this
 refine ⟨?_, this⟩
 by_cases hlt : (runS p inp fuel).2.toNat < a.sites.length
 ·omega
 ·rw [List.getD_eq_getElem?_getD, List.getElem?_eq_none (by omega)] at this
  exact absurd this (by simp)
def anG (D : List Int → Dom V) (src : Bytes) (cfg : Cfg) (thr : Bool) : Option (List (St V) × List Nat) × Nat := match readS src (steps src) with
 | some (.ok pg) => match solveA (D (if thr then stepsOf pg.nums else [])) cfg GAS pg with
   | some a => (some (a.facts, a.sites), 0)
   | none => (none, 0)
 | some (.error (x, _)) => (none, x)
 | none => (none, 0)
end
section
variable {V : Type} [DecidableEq V] {D : List Int → Dom V} {O : ∀ l, DomOk (D l)} {e : Emb V} {d : Int} {z : V}
theorem both_of (hz : ∀ l, (D l).zeroV = z) (htop : ∀ l, 8 * (O l).top + 1 < GAS)
 (hmem : ∀ l x n, (O l).inv x → (O l).mem x n → I16 n → hasV d (e.a x) (e.b x) n = true)
 (hsml : ∀ l x, (O l).inv x → (-1000000000 ≤ e.a x ∧ e.a x ≤ 1000000000) ∧ (-1000000000 ≤ e.b x ∧ e.b x ≤ 1000000000))
 (src : Bytes) (cfg : Cfg) (thr : Bool) (l : List Int) :
 ((outc (invRun src (l.map w16) 300)).2 ≠ 0 ∨ (anG D src cfg thr).2 ≠ 0 → (outc (invRun src (l.map w16) 300)).2 = (anG D src cfg thr).2) ∧
 ((outc (invRun src (l.map w16) 300)).2 = 0 → (anG D src cfg thr).2 = 0 → ∃ fs ss, (anG D src cfg thr).1 = some (fs, ss) ∧
   Within e d (outc (invRun src (l.map w16) 300)).1.1 (outc (invRun src (l.map w16) 300)).1.2 fs ss z ⟨false, List.replicate 8 z⟩) := by
 obtain ⟨res, hres⟩ := readS_some src
 unfold invRun anG
 rw [hres]
 cases res with
 | error xa =>
   obtain ⟨x, a⟩ := xa
   refine ⟨fun _ => rfl, fun hx _ => ?_⟩
   exact absurd hx (readS_err hres)
 | ok pg =>
   have hg := readS_good hres
   obtain ⟨a, ha⟩ := solve_tot (O (if thr then stepsOf pg.nums else [])) (cfg := cfg) (htop _) hg
   simp only [ha]
   refine ⟨fun h => ?_, fun _ _ => ⟨a.facts, a.sites, rfl, ?_⟩⟩
   ·exact rfl
   ·have := within_of (O := O (if thr then stepsOf pg.nums else [])) (e := e) (d := d) (hmem _) (hsml _) hg ha (ins_ok l) (fuel := 300) (by decide)
    unfold noS at this
    rw [hz] at this
    exact this
end
theorem anl_q {src : Bytes} {w : World} {cfg : Cfg} {thr : Bool} (hrel : RelsAt w) (hcf : cfg.delay ≤ 4 ∧ cfg.narrow ≤ 3 ∧ cfg.unroll ≤ 3) :
 Calls pr n_inv_Analyze #[.string (S src), cfgV 0 cfg thr] w (AnlQ spE w (anG spans src cfg thr)) := by
 obtain ⟨res, hres⟩ := readS_some src
 have hsv : ∀ pg, res = .ok pg → ∃ a, solveA (spans (if thr then stepsOf pg.nums else [])) cfg GAS pg = some a := by
  rintro pg rfl; exact solve_tot (spansOk _) (by show 8 * 65535 + 1 < 1000000; omega) (readS_good hres)
 refine (anl_ok (gas := GAS) (thr := thr) hrel hres (by decide) hcf hsv).mono ?_
 rintro en w' ⟨ho, he⟩
 refine ⟨ho, ?_⟩
 unfold anG
 rw [hres]
 match res with
 | .error (x, a) =>
   obtain ⟨v, rfl, hv⟩ := he
   exact ⟨_, v, rfl, rfl, fun w'' ho' hg => ⟨a, tell_err hg (hv.keep ho')⟩⟩
 | .ok pg =>
   obtain ⟨a, rb, sb, hs, rfl, h1, h2⟩ := he
   obtain ⟨b1, b2, b3, b4⟩ := read_bounds hres
   have hi := (solve_sound (O := spansOk _) (readS_good hres) hs (inp := []) (fun _ hx => by cases hx) 0).1
   have l3 : ∀ x ∈ a.facts, x.vars.length = 8 := fun x hx => by
    obtain ⟨i, hi', rfl⟩ := List.getElem_of_mem hx
    have := (hi.fi i).len
    rwa [List.getD_eq_getElem?_getD, List.getElem?_eq_getElem hi'] at this
   have l1 := hi.fl
   have l2 := hi.sl
   simp only [hs]
   refine ⟨_, _, rfl, ⟨rb, sb, by rw [l1, l2], by omega, by omega, l3, h1, h2⟩, fun w'' ho' hg => ⟨0, tell_nil w''⟩⟩
theorem has_span (l : List Int) (x : Span) (n : Int) (_ : (spansOk l).inv x) (h : (spansOk l).mem x n) (_ : I16 n) : hasV 0 (spE.a x) (spE.b x) n = true := by
 have h : x.lo ≤ n ∧ n ≤ x.hi := h
 unfold hasV
 rw [if_pos rfl]
 simp [spE, h.1, h.2]
theorem sml_span (l : List Int) (x : Span) (h : (spansOk l).inv x) : (-1000000000 ≤ spE.a x ∧ spE.a x ≤ 1000000000) ∧ (-1000000000 ≤ spE.b x ∧ spE.b x ≤ 1000000000) := by
 have h : InvSp x := h
 obtain ⟨h1, h2, h3⟩ := h
 simp only [spE]; omega
theorem o_cfgVar {E : PanicK} {K : Value → World → Prop} {d : Int} {cfg : Cfg} {thr : Bool} {w : World}
 (hK : ∀ w', Old w w' → w'.heap[w.heap.size]? = some (.cells #[vi d, vi cfg.delay, vi cfg.narrow, vi cfg.unroll, .bool thr] 26 (0, 0)) → K (pt w.heap.size 0) w') :
 o pr E w (sAlloc 26) fun t w => o pr E w (sStore 26 t (cfgV d cfg thr)) fun _ w => K t w := by
 unfold cfgV
 simp only [o_val (al_45 _)]
 have ho : Old w (w.alloc (.cells #[vi 0, vi 0, vi 0, vi 0, .bool false] 26)) := (Old.refl w).alloc _
 have ha : (w.alloc (.cells #[vi 0, vi 0, vi 0, vi 0, .bool false] 26)).heap[w.heap.size]? = some (.cells #[vi 0, vi 0, vi 0, vi 0, .bool false] 26 (0, 0)) := heap_alloc_self _
 generalize w.alloc (.cells #[vi 0, vi 0, vi 0, vi 0, .bool false] 26) = w1 at *
 have hrow : okRow (w1.heap[w.heap.size]?) 0 5 = true := by rw [ha]; rfl
 have hvi : ∀ x, isOne (vi x) = true := fun _ => rfl
 have hvb : ∀ x, isOne (.bool x) = true := fun _ => rfl
 simp only [↓RT9, ↓RG, RV, hrow, hvi, hvb, Bool.and_self, List.all_cons, List.all_nil, decide_true, ifc_true, putL]
 refine hK _ (((((ho.put (Nat.le_refl _)).put (Nat.le_refl _)).put (Nat.le_refl _)).put (Nat.le_refl _)).put (Nat.le_refl _)) ?_
 rw [heap_put_self, heap_put_self, heap_put_self, heap_put_self, heap_put_self, ha]; rfl
structure TabsR (w : World) : Prop where
 rel : RelsAt w
 err : ErrTy w
theorem TabsR.old {w w' : World} (h : TabsR w) (ho : Old w w') : TabsR w' := ⟨h.rel.old ho, h.err.old ho⟩
theorem soundlaw_ok {w : World} {src : Bytes} {v : Value} {l : List Int} {a b c : Int} {t : Bool} (ht : TabsR w) (hl : IntsAt w v l) : Calls pr n_law_Sound #[.string (S src), v, vi a, vi b, vi c, .bool t] w (TrueP w) := by
 refine sh_law_Sound_ok _ _ _ _ _ _ _ _ ?_
 unfold sh_law_Sound
 refine cl_of (runs_ok ht.rel) ?_
 rintro _ w1 ⟨ho1, rfl⟩
 simp only [endK]
 refine cl_of (knows_ok (ht.old ho1).rel) ?_
 rintro _ w2 ⟨rfl, ho2⟩
 have ho2' := ho1.trans ho2
 obtain ⟨sa, sc, hv⟩ := hl.len
 subst hv
 simp only [endK, ↓RT9, ↓RT, ↓RG, RV, condG_no1, condG_yes, cond_true, cond_false, Bool.not_true]
 refine condG_split (fun h1 => ?_) (fun h1 => ?_)
 ·have h1' : src.length ≤ 1048576 := by simp at h1; omega
  simp only [h1, ↓RT9, ↓RT, ↓RG, RV, cond_false]
  refine condP_split (fun h2 => ⟨ho2', rfl⟩) (fun h2 => ?_)
  have hlen : l.length ≤ 1048576 := by simp at h2; omega
  refine cl_of (config_ok 0 a b c t w2) ?_
  rintro _ w3 ⟨rfl, ho3⟩
  have hcf : (⟨uns a 5, uns b 4, uns c 4⟩ : Cfg).delay ≤ 4 ∧ (⟨uns a 5, uns b 4, uns c 4⟩ : Cfg).narrow ≤ 3 ∧ (⟨uns a 5, uns b 4, uns c 4⟩ : Cfg).unroll ≤ 3 :=
   ⟨by have := uns_lt a 5 (by decide); show uns a 5 ≤ 4; omega, by have := uns_lt b 4 (by decide); show uns b 4 ≤ 3; omega, by have := uns_lt c 4 (by decide); show uns c 4 ≤ 3; omega⟩
  generalize (⟨uns a 5, uns b 4, uns c 4⟩ : Cfg) = cfg at *
  have ho3 := ho2'.trans ho3
  simp only [endK]
  refine o_cfgVar ?_
  intro w4 ho4 hc4
  have ho4' := ho3.trans ho4
  simp only [↓RT9, ↓RT, ↓RG, RV, hc4, okOf_some, row5all]
  obtain ⟨hb1, hb2⟩ := both_of (D := spans) (O := spansOk) (e := spE) (d := 0) (z := ⟨0, 0⟩) (fun _ => rfl) (fun _ => by show 8 * 65535 + 1 < 1000000; omega) has_span sml_span src cfg t l
  have hs := sound_ok (w := w4) (src := src) (d := 0) (cfg := cfg) (thr := t) (e := spE) (rep := anG spans src cfg t) (z := ⟨0, 0⟩) (dz := ⟨false, List.replicate 8 ⟨0, 0⟩⟩) (ht.old ho4').rel (ht.old ho4').err (hl.old ho4') (by omega) (fun w' ho => anl_q ((ht.old ho4').old ho).rel hcf) hb1 hb2
  refine cl_of hs ?_
  rintro _ w5 ⟨ho5, rfl⟩
  simp only [endK]
  exact ⟨ho4'.trans ho5, rfl⟩
 ·have h1' : decide ((src.length : Int) > 1048576) = true := by simpa using h1
  simp only [h1', ↓RT9, ↓RT, ↓RG, RV, condG_no1, condG_yes, cond_true, condP_true]
  exact ⟨ho2', rfl⟩
end Go.Inv
namespace Go.Proofs.YtknfapnlpkmcjabGreatDoor.cards
open Go.ChangeShapes Go.WideShapes Go.ChangeAt Go.RowKit Go.ChangeMaps Go.Sh Go.Inv
theorem own : ownKnob Tryz.prog.godebug = none := by kernel_rfl
theorem gErr : Tryz.prog.globalNamed "errors.errorType" = some 0 := by kernel_rfl
theorem gRel : Tryz.prog.globalNamed "invariants/tree.rels" = some 1 := by kernel_rfl
theorem gRelT : (Tryz.prog.globals[1]?).map (·.type) = some 253 := by kernel_rfl
theorem u253 : Tryz.prog.underlying 253 = some (.array 6 9) := by kernel_rfl
theorem c253 : Tryz.prog.cellsOf 253 = 6 := by kernel_rfl
theorem c9 : Tryz.prog.cellsOf 9 = 1 := by kernel_rfl
theorem c3 : Tryz.prog.cellsOf 3 = 1 := by kernel_rfl
theorem rt : (Tryz.prog.cutTypes.find? (·.1 == "internal/reflectlite.rtype")).map (·.2) = some 183 := by kernel_rfl
theorem oneRow : ((List.range 296).filter fun t => Tryz.prog.rowNamed t [101, 114, 114, 111, 114]) = [36] := by kernel_rfl
theorem size : Tryz.prog.types.size = 296 := by kernel_rfl
theorem cells_of_strs {H : Type} {enc : TypeId × Value → H} {P : Program} {w : World} {base : Nat} {sp : Nat → Bool} {held : Bool} {fuel : Nat} {t e : TypeId} {n : Nat} {cs : List Value} {zs : List (List UInt8)} {p : List MemPlace}
 (ht : P.underlying t = some (.array n e)) (he : P.underlying e = some .string) (hce : P.cellsOf e = 1) (hct : P.cellsOf t = n)
 (h : DataW.trod enc P w base sp held fuel t cs = some (.agg (zs.map fun z => .lit (.string z)), p)) : cs = zs.map fun z => Value.string (S z) := by
 cases fuel with
 | zero => simp [DataW.trod] at h
 | succ fuel =>
   simp only [DataW.trod, ht, hce, hct, Nat.mul_one] at h
   split at h
   ·rename_i hl
    obtain ⟨xs, hm, hx⟩ := Option.map_eq_some_iff.1 h
    have hxs : xs.map (·.1) = zs.map fun z => (DataW.lit (.string z) : DataW H) := by
     have := congrArg Prod.fst hx
     simpa using this
    have hxl : xs.length = n := by simpa using Lib.mapM_length hm
    have hzl : zs.length = n := by
     have := congrArg List.length hxs
     simp at this
     omega
    apply List.ext_getElem?
    intro i
    by_cases hi : i < n
    ·obtain ⟨b, hb, hf⟩ := Lib.mapM_at hm i i (by simp [hi])
     obtain ⟨s, hc, rfl, _⟩ := DataW.trod_string he hf
     have h1 : cs[i]? = some (.string s) := by
      have := congrArg (·[0]?) hc
      simpa [List.getElem?_take, List.getElem?_drop] using this
     have h2 : (xs.map (·.1))[i]? = some (DataW.lit (.string s.data.toList) : DataW H) := by simp [hb]
     rw [hxs] at h2
     simp only [List.getElem?_map, Option.map_eq_some_iff, DataW.lit.injEq, Lit.string.injEq] at h2
     obtain ⟨z', hz', rfl⟩ := h2
     simp [h1, hz', S]
    ·rw [List.getElem?_eq_none (by omega), List.getElem?_eq_none (by simp; omega)]
   ·cases h
def VarR (P : Program) (w : World) (n : String) (d : DataW Unit) : Prop :=
 ∃ g t cs fuel p, P.globalNamed n = some g ∧ (P.globals[g]?).map (·.type) = some t ∧ w.var? P n = some cs ∧ DataW.trod (fun _ => ()) P w 0 (fun _ => true) false fuel t cs.toList = some (d, p)
theorem laidVars_r {P : Program} {w : World} : ∀ {l : List (String × DataW Unit)} {ps : List MemPlace}, DataW.LaidVars P w l ps → ∀ n d, (n, d) ∈ l → VarR P w n d
 | [], _, _, _, _, hm => by cases hm
 | (n', d') :: r, ps, h, n, d, hm => by
   obtain ⟨g, t, cs, fuel, p, q, h1, h2, h3, h4, h5, _⟩ := h
   rcases List.mem_cons.1 hm with e | e
   ·cases e
    exact ⟨g, t, cs, fuel, p, h1, h2, h3, h4⟩
   ·exact laidVars_r h5 n d e
theorem rels_of {W : World} (h : VarR Tryz.prog W "invariants/tree.rels" Rows.laid_invariants_tree_rels) : RelsAt W := by
 obtain ⟨g', t', cs, fuel, p, hg', ht', hvar, hd⟩ := h
 obtain rfl := Option.some.inj (gRel.symm.trans hg')
 obtain rfl := Option.some.inj (gRelT.symm.trans ht')
 have hcs := cells_of_strs (zs := [[60], [62, 61], [60, 61], [62], [61, 61], [33, 61]]) u253 Tryz.underlying9 c9 c253 hd
 simp only [World.var?, gRel, Option.bind_some] at hvar
 split at hvar
 ·rename_i c t f hh
  cases hvar
  refine ⟨t, f, ?_⟩
  rw [show gRels = 1 from rfl, hh]
  congr 2
  apply Array.ext'
  rw [hcs]; rfl
 ·cases hvar
theorem err_of {W : World} (h : handlesMet Tryz.prog [("errors.errorType", Rows.laid_errors_errorType)] W) : ErrTy W := by
 obtain ⟨name, u, ty, e1, e2, e3, e4, e5⟩ := h _ (List.mem_singleton.2 rfl)
 have en : name = [101, 114, 114, 111, 114] := (Option.some.inj e1).symm
 subst en
 obtain rfl := Option.some.inj (rt.symm.trans e2)
 have hm : ty ∈ (List.range 296).filter fun t => Tryz.prog.rowNamed t [101, 114, 114, 111, 114] := List.mem_filter.2 ⟨List.mem_range.2 (by rw [← size]; exact e3), e4⟩
 rw [oneRow] at hm
 obtain rfl := List.mem_singleton.1 hm
 have hh : typeHandle Tryz.prog 36 = .pointer (some ⟨4, 36, none⟩) := by kernel_rfl
 rw [hh] at e5
 simp only [World.var?, gErr, Option.bind_some] at e5
 split at e5
 ·rename_i c t f hc
  have e6 : c = #[.iface 183 (.agg #[.pointer (some ⟨4, 36, none⟩)])] := Option.some.inj e5
  exact ⟨t, f, by rw [hc, e6]⟩
 ·cases e5
structure TabsS (W : World) : Prop where
 rel : RelsAt W
 err : ErrTy W
theorem tabsS_of {W : World} (h1 : laidMet Tryz.prog [("invariants/tree.rels", Rows.laid_invariants_tree_rels)] W) (h2 : handlesMet Tryz.prog [("errors.errorType", Rows.laid_errors_errorType)] W) : TabsS W := by
 obtain ⟨_, hv, _⟩ := h1
 have hr := laidVars_r hv
 exact ⟨rels_of (hr _ _ List.mem_cons_self), err_of h2⟩
theorem kept_of_old {w w' : World} (h : Old w w') (may : MemPlace → Prop) : w.keptBut w' may := by
 refine ⟨h.out.os, h.out.output, fun i hi => ?_⟩
 rw [h.old i hi]
 cases w.heap[i]? with
 | none => rfl
 | some o => cases o <;> first | rfl | exact ⟨rfl, rfl, rfl, fun _ _ => rfl⟩ | exact .inr ⟨rfl, rfl⟩
theorem S_list (s : ByteArray) : S s.data.toList = s := by cases s; simp [S]
theorem cell_old {w w' : World} (h : Old w w') {a : Addr} {v : Value} (hc : w.cell? a = some v) : w'.cell? a = some v := by
 have hl : a.block < w.heap.size := by
  rcases Nat.lt_or_ge a.block w.heap.size with h | h
  ·exact h
  ·simp [World.cell?, Array.getElem?_eq_none h] at hc
 rw [World.cell?_of_block (h.old _ hl)]; exact hc
theorem ints_in {H : Type} {enc : TypeId × Value → H} {W : World} {a0 : Option Addr} {len cap : Nat} {d : DataW H} {p : List MemPlace}
 (h : DataW.Trod enc Tryz.prog W 0 (fun _ => true) true 22 (.slice a0 len cap) d p) :
 ∃ l, IntsAt W (.slice a0 len cap) l ∧ ∀ (W' : World), Old W W' → ∀ sp : Nat → Bool, (∀ p' ∈ p, sp p'.block = true) → DataW.Trod enc Tryz.prog W' 0 sp true 22 (.slice a0 len cap) d p := by
 obtain ⟨fuel, hf⟩ := h
 rcases open_ints Tryz.underlying22 Tryz.underlying3 c3 hf with ⟨hcs, hx⟩ | ⟨a, len', cap', zs, hcs, _, hle, hmax, hlen, hx, hcell, hwf⟩
 ·simp [Value.cells] at hcs
  obtain ⟨rfl, rfl, rfl⟩ := hcs
  simp only [Prod.mk.injEq] at hx
  obtain ⟨rfl, rfl⟩ := hx
  exact ⟨[], .inl ⟨rfl, _, _, rfl⟩, fun W' _ sp _ => ⟨1, by simp [DataW.trod, Value.cells, Tryz.underlying22]⟩⟩
 ·simp [Value.cells] at hcs
  obtain ⟨rfl, rfl, rfl⟩ := hcs
  simp only [Prod.mk.injEq] at hx
  obtain ⟨rfl, rfl⟩ := hx
  simp only [if_true] at hlen
  refine ⟨zs.take len, ?_, fun W' ho sp hsp => ⟨2, ?_⟩⟩
  ·have htl : (zs.take len).length = len := by rw [List.length_take]; omega
   rcases Nat.eq_zero_or_pos len with h0 | h0
   ·subst h0
    exact .inl ⟨by simp, _, _, rfl⟩
   ·obtain ⟨b, off, rfl, hat⟩ := ints_at hcell (by omega)
    have hc0 := hat 0 (by omega)
    simp only [World.cell?] at hc0
    split at hc0
    ·rename_i cs t f hb
     refine .inr ⟨b, off, cap, cs, t, f, by rw [htl], hb, fun j x hj => ?_⟩
     have hjl : j < zs.length := by
      have := (List.getElem?_eq_some_iff.1 hj).1
      omega
     have this : cs[off + j]? = some (.int .i64 (zs.getD j 0)) := by simpa [World.cell?, hb] using hat j hjl
     rw [this]
     rw [List.getElem?_take] at hj
     split at hj
     ·simp [List.getD, hj]
     ·cases hj
    ·cases hc0
  ·refine shut_ints 0 Tryz.underlying22 Tryz.underlying3 c3 (Nat.zero_le _) hle hmax ?_ (fun i hi => cell_old ho (hcell i hi)) hwf
   rcases Nat.eq_zero_or_pos zs.length with h0 | h0
   ·split <;> omega
   ·have : sp a.block = true := hsp (.cell a.block (a.off + 0)) (MemPlace.mem_row.2 ⟨0, h0, rfl⟩)
    rw [this]; simpa using hlen
noncomputable def laidWorld (os : Os) : World :=
 let w0 := World.holding Tryz.prog os ⟨#[], #[], []⟩
 { w0 with heap := (w0.heap.modify 0 fun
  | .cells _ t frozen => .cells #[.iface 183 (.agg #[.pointer (some ⟨4, 36, none⟩)])] t frozen
  | o => o).modify 1 fun
  | .cells _ t frozen => .cells relsV t frozen
  | o => o }
end Go.Proofs.YtknfapnlpkmcjabGreatDoor.cards
namespace Go.Proofs.YtknfapnlpkmcjabGreatDoor.sound
open Go
theorem c0 : (Rows.soundRow.wf (OpenSpec.ofChange (OpenSpec.ofChange Rows.soundSpec).bare)) = true := by kernel_rfl
theorem c1 : (laidOutB Tryz.prog) = true := by kernel_rfl
theorem c2 : (mapsRowed Tryz.prog) = true := by kernel_rfl
theorem c3 : (Tryz.f3.params.all (Tryz.prog.readableRec ·)) = true := by kernel_rfl
theorem c4 : (namedTie Tryz.prog Rows.soundRow.named (OpenSpec.ofChange Rows.soundSpec).bare.vars) = true := by kernel_rfl
theorem c5 : ((Rows.soundRow.stops == [])) = true := by kernel_rfl
theorem c6 : ((Tryz.prog.stops == [])) = true := by kernel_rfl
theorem c7 : ((Rows.soundRow.knobs == [])) = true := by kernel_rfl
theorem c8 : ((Tryz.prog.stopKnobs == [])) = true := by kernel_rfl
theorem c9 : ((Rows.soundRow.inPlace == Tryz.prog.inPlace 3)) = true := by kernel_rfl
theorem c10 : ((Rows.soundRow.unfollowed == Tryz.prog.unfollowed 3)) = true := by kernel_rfl
theorem c11 : ((Rows.soundRow.recurses == Tryz.prog.recurses 3)) = true := by kernel_rfl
theorem c12 : ((Rows.soundRow.named == Tryz.prog.varsNamed 3)) = true := by kernel_rfl
theorem c13 : ((Rows.soundRow.maps == (Tryz.f3.params.toList ++ (OpenSpec.ofChange Rows.soundSpec).bare.plain.varTypes Tryz.prog).any (Tryz.prog.mapsRec ·))) = true := by kernel_rfl
theorem c14 : ((Rows.soundRow.ifaces == (Tryz.f3.params.toList ++ (OpenSpec.ofChange Rows.soundSpec).bare.plain.varTypes Tryz.prog).any (Tryz.prog.ifacesRec ·))) = true := by kernel_rfl
theorem c15 : ((Rows.soundRow.mapsOut == Tryz.prog.mapsAmong Tryz.f3.resultTypes.toList)) = true := by kernel_rfl
theorem c16 : ((Rows.soundRow.loops == (Tryz.f3.params.toList ++ (OpenSpec.ofChange Rows.soundSpec).bare.plain.varTypes Tryz.prog).any (Tryz.prog.loopsFrom ·))) = true := by kernel_rfl
theorem c17 : ((Rows.soundRow.wideKeys == (Tryz.f3.params.toList ++ (OpenSpec.ofChange Rows.soundSpec).bare.plain.varTypes Tryz.prog ++ Tryz.f3.resultTypes.toList).any (Tryz.prog.wideKeysFrom ·))) = true := by kernel_rfl
theorem c18 : ((OpenSpec.ofChange Rows.soundSpec).bare.vars.all (Tryz.prog.varReadable ·)) = true := by kernel_rfl
theorem c19 : (Tryz.f3.resultTypes.all (fun t => Tryz.prog.readableRec t && decide (t < Tryz.prog.types.size))) = true := by kernel_rfl
theorem c20 : ((Rows.soundRow.ifacesOut == Tryz.f3.resultTypes.toList.any (Tryz.prog.ifacesRec ·))) = true := by kernel_rfl
theorem c21 : ((Rows.soundRow.loopsOut == Tryz.f3.resultTypes.toList.any (Tryz.prog.loopsFrom ·))) = true := by kernel_rfl
theorem c22 : ((Rows.soundRow.plainKeys == Tryz.prog.plainKeys)) = true := by kernel_rfl
theorem c23 : (Rows.soundRow.shortTexts.isNone) = true := by kernel_rfl
theorem c24 : (Tryz.prog.stopsHeard) = true := by kernel_rfl
theorem c25 : (Tryz.prog.mayEnter) = true := by kernel_rfl
theorem c26 : ((Rows.soundRow.lifted == Tryz.prog.liftsFinal)) = true := by kernel_rfl
theorem c27 : ((Tryz.prog.make == some Rows.soundRow.make)) = true := by kernel_rfl
theorem c28 : ((Rows.soundRow.kinds == (if Rows.soundRow.domain.isEmpty then [] else Tryz.f3.params.toList.map fun t => match Tryz.prog.underlying t with | some (.int k) => some k | _ => none))) = true := by kernel_rfl
theorem c29 : ((Rows.soundRow.pinned == Rows.soundRow.pinnedBy)) = true := by kernel_rfl
theorem c30 : ((Rows.soundRow.veiled == (Tryz.f3.params.toList ++ (OpenSpec.ofChange Rows.soundSpec).bare.plain.varTypes Tryz.prog ++ Tryz.f3.resultTypes.toList).any (Tryz.prog.veiledRec ·))) = true := by kernel_rfl
theorem c31 : (Rows.soundRow.veiledFits Tryz.prog Tryz.f3.params.toList (Tryz.f3.params.toList ++ (OpenSpec.ofChange Rows.soundSpec).bare.plain.varTypes Tryz.prog ++ Tryz.f3.resultTypes.toList)) = true := by kernel_rfl
theorem both {a b : Bool} (h1 : a = true) (h2 : b = true) : (a && b) = true := by rw [h1, h2]; rfl
theorem closed : joinedFacts Tryz.prog 3 Tryz.f3 (OpenSpec.ofChange Rows.soundSpec).bare Rows.soundRow = true := by
 unfold joinedFacts
 exact (both (both (both (both (both (both (both (both (both (both (both (both (both (both (both (both (both (both (both (both (both (both (both (both (both (both (both (both (both (both (both c0 c1) c2) c3) c4) c5) c6) c7) c8) c9) c10) c11) c12) c13) c14) c15) c16) c17) c18) c19) c20) c21) c22) c23) c24) c25) c26) c27) c28) c29) c30) c31)
end Go.Proofs.YtknfapnlpkmcjabGreatDoor.sound
