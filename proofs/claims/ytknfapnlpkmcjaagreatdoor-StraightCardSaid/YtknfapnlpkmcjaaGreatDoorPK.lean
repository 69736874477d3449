/- A part of the proofs of the cards of this seat: whatever the input, each law returns true and leaves its arguments as they were. No condition. -/
import Derived.Test.YtknfapnlpkmcjaaGreatDoorPI
import Derived.Test.YtknfapnlpkmcjaaGreatDoorPJ
import Derived.Laws.MakeOwn
import Derived.Test.YtknfapnlpkmcjaaGreatDoorPB
import Derived.Test.YtknfapnlpkmcjaaGreatDoorPG
import Derived.Test.YtknfapnlpkmcjaaGreatDoorPF
set_option linter.all false
set_option maxRecDepth 100000
set_option maxHeartbeats 32000000
namespace Go.Inv
open Go.Sh
theorem pl2 : plainT pr 2 = true := by kernel_rfl
theorem ag45 : aggT pr 45 = some 5 := by kernel_rfl
theorem pl47 : plainT pr 47 = true := by kernel_rfl
theorem ag49 : aggT pr 49 = some 2 := by kernel_rfl
theorem ag103 : aggT pr 103 = some 17 := by kernel_rfl
theorem ag105 : aggT pr 105 = some 2 := by kernel_rfl
theorem ag240 : aggT pr 240 = some 16 := by kernel_rfl
theorem ag251 : aggT pr 251 = some 16 := by kernel_rfl
theorem fo45_0 : fieldOff pr 45 0 = some 0 := by kernel_rfl
theorem fo45_4 : fieldOff pr 45 4 = some 4 := by kernel_rfl
theorem fo49_0 : fieldOff pr 49 0 = some 0 := by kernel_rfl
theorem fo49_1 : fieldOff pr 49 1 = some 1 := by kernel_rfl
theorem fo100_1 : fieldOff pr 100 1 = some 1 := by kernel_rfl
theorem fo103_0 : fieldOff pr 103 0 = some 0 := by kernel_rfl
theorem fo103_1 : fieldOff pr 103 1 = some 1 := by kernel_rfl
theorem il47 : isSl pr 47 = true := by kernel_rfl
theorem il237 : isSl pr 237 = true := by kernel_rfl
theorem il248 : isSl pr 248 = true := by kernel_rfl
theorem so159 : solid pr 159 = true := by kernel_rfl
theorem so166 : solid pr 166 = true := by kernel_rfl
def RT9 := (And.intro (And.intro (And.intro (And.intro (And.intro (And.intro (And.intro (rLoad pl2) (raLoad pl2)) (And.intro (rkLoad pl2) (rStore pl2))) (And.intro (And.intro (rLoad pl3) (raLoad pl3)) (And.intro (rkLoad pl3) (And.intro (rStore pl3) (rLoad pl4))))) (And.intro (And.intro (And.intro (raLoad pl4) (rkLoad pl4)) (And.intro (rStore pl4) (rLoad pl22))) (And.intro (And.intro (raLoad pl22) (rkLoad pl22)) (And.intro (rStore pl22) (And.intro (rLoad pl47) (raLoad pl47)))))) (And.intro (And.intro (And.intro (And.intro (rkLoad pl47) (rStore pl47)) (And.intro (rLoad pl119) (raLoad pl119))) (And.intro (And.intro (rkLoad pl119) (rStore pl119)) (And.intro (rLoad pl237) (And.intro (raLoad pl237) (rkLoad pl237))))) (And.intro (And.intro (And.intro (rStore pl237) (rLoad pl248)) (And.intro (raLoad pl248) (And.intro (rkLoad pl248) (rStore pl248)))) (And.intro (And.intro (rLoadA ag45) (raLoadA ag45)) (And.intro (rkLoadA ag45) (And.intro (rStoreA ag45) (rLoadA ag49))))))) (And.intro (And.intro (And.intro (And.intro (And.intro (raLoadA ag49) (rkLoadA ag49)) (And.intro (rStoreA ag49) (rLoadA ag100))) (And.intro (And.intro (raLoadA ag100) (rkLoadA ag100)) (And.intro (rStoreA ag100) (And.intro (rLoadA ag103) (raLoadA ag103))))) (And.intro (And.intro (And.intro (rkLoadA ag103) (rStoreA ag103)) (And.intro (rLoadA ag105) (And.intro (raLoadA ag105) (rkLoadA ag105)))) (And.intro (And.intro (rStoreA ag105) (rLoadA ag155)) (And.intro (raLoadA ag155) (And.intro (rkLoadA ag155) (rStoreA ag155)))))) (And.intro (And.intro (And.intro (And.intro (rLoadA ag162) (raLoadA ag162)) (And.intro (rkLoadA ag162) (rStoreA ag162))) (And.intro (And.intro (rLoadA ag240) (raLoadA ag240)) (And.intro (rkLoadA ag240) (And.intro (rStoreA ag240) (rLoadA ag242))))) (And.intro (And.intro (And.intro (raLoadA ag242) (rkLoadA ag242)) (And.intro (rStoreA ag242) (And.intro (rLoadA ag251) (raLoadA ag251)))) (And.intro (And.intro (rkLoadA ag251) (rStoreA ag251)) (And.intro (rLoadA ag253) (And.intro (raLoadA ag253) (rkLoadA ag253)))))))) (And.intro (And.intro (And.intro (And.intro (And.intro (And.intro (rStoreA ag253) (rFA fo45_0)) (And.intro (rzFA fo45_0) (rFA fo45_1))) (And.intro (And.intro (rzFA fo45_1) (rFA fo45_2)) (And.intro (rzFA fo45_2) (And.intro (rFA fo45_3) (rzFA fo45_3))))) (And.intro (And.intro (And.intro (rFA fo45_4) (rzFA fo45_4)) (And.intro (rFA fo49_0) (rzFA fo49_0))) (And.intro (And.intro (rFA fo49_1) (rzFA fo49_1)) (And.intro (rFA fo100_1) (And.intro (rzFA fo100_1) (rFA fo103_0)))))) (And.intro (And.intro (And.intro (And.intro (rzFA fo103_0) (rFA fo103_1)) (And.intro (rzFA fo103_1) (rFA fo121_0))) (And.intro (And.intro (rzFA fo121_0) (rFA fo121_1)) (And.intro (rzFA fo121_1) (And.intro (rFA fo121_2) (rzFA fo121_2))))) (And.intro (And.intro (And.intro (rFA fo121_3) (rzFA fo121_3)) (And.intro (rFA fo239_2) (And.intro (rzFA fo239_2) (rFA fo239_3)))) (And.intro (And.intro (rzFA fo239_3) (rFA fo242_0)) (And.intro (rzFA fo242_0) (And.intro (rFA fo242_1) (rzFA fo242_1))))))) (And.intro (And.intro (And.intro (And.intro (And.intro (rFA fo250_2) (rzFA fo250_2)) (And.intro (rFA fo250_3) (rzFA fo250_3))) (And.intro (And.intro (rFA fo253_0) (rzFA fo253_0)) (And.intro (rFA fo253_1) (And.intro (rzFA fo253_1) (rIdxS is9))))) (And.intro (And.intro (And.intro (rzIdxS is9) (rLenS is9)) (And.intro (rzLenS is9) (And.intro (rCut is9) (rzCut is9)))) (And.intro (And.intro (rCutL is9) (rzCutL is9)) (And.intro (rLenL il22) (And.intro (rzLenL il22) (rLenL il47)))))) (And.intro (And.intro (And.intro (And.intro (rzLenL il47) (rLenL il237)) (And.intro (rzLenL il237) (rLenL il248))) (And.intro (And.intro (rzLenL il248) (rIface so33)) (And.intro (rzIface so33) (And.intro (rIface so159) (rzIface so159))))) (And.intro (And.intro (And.intro (rIface so166) (rzIface so166)) (And.intro (rConv ik3 ik3) (And.intro (rzConv ik3 ik3) (rConv ik3 ik104)))) (And.intro (And.intro (rzConv ik3 ik104) (rConv ik104 ik3)) (And.intro (rzConv ik104 ik3) (And.intro (rConv ik104 ik104) (rzConv ik104 ik104)))))))))
def ct_analysis_solve_Span_1 (E : PanicK) (e1 : Nat → Value) (t2 : Value) (t5 : Value) (e2 : Nat → Value) (a2 : Value) (I1 : List Value → World → Prop) (m1 : List Value → World → Nat) (w1 : World) (j1 : List Value → World → Prop) : World → Prop :=
 (fun w =>
 o pr E w (sBinC .lss 3 (e1 85) (Value.int IntKind.i64 8) 3) fun t1 w =>
 condP t1 (o pr E w (sIdx 251 t2 (e1 85)) fun t3 w =>
 o pr E w (sAlloc 162) fun t4 w =>
 o pr E w (sStore 162 t4 t3) fun _ w =>
 (fun w =>
 oz pr (sFA 49 t5 0) fun t6 =>
 oa pr w (sLoad 47 t6) fun t7 =>
 oa pr w (sLoad 162 t4) fun t8 =>
 oz pr (sIA 47 t7 (e2 70)) fun t9 =>
 oz pr (sFA 103 t9 1) fun t10 =>
 o pr E w (sInvoke a2 "Tell" [t8]) fun t11 w =>
 rk pr w (sLoad 47 t6) t7 ∧
 oz pr (sIA 101 t10 (e1 85)) fun t12 =>
 o pr E w (sStore 100 t12 t11) fun _ w =>
 o pr E w (sBinC .add 3 (e1 85) (Value.int IntKind.i64 1) 3) fun t13 w =>
 I1 [t13] w ∧ m1 [t13] w < m1 [e1 85] w1) (dr w))
  (j1 [] w))
def ct_analysis_solve_Span_2 (E : PanicK) (e1 : Nat → Value) (t1 : Value) (I1 : List Value → World → Prop) (m1 : List Value → World → Nat) (w1 : World) (t4 : Value) (t11 : Value) (a2 : Value) (t19 : Value) (K : Value → World → Prop) : World → Prop :=
 (fun w =>
 o pr E w (sBin .lss 3 (e1 70) t1 3) fun t2 w =>
 ∃ j1 : List Value → World → Prop, (∀ (e2 : Nat → Value) w, j1 [] w →
 o pr E w (sBinC .add 3 (e1 70) (Value.int IntKind.i64 1) 3) fun t3 w =>
 I1 [t3] w ∧ m1 [t3] w < m1 [e1 70] w1) ∧
 condP t2 (o pr E w (sIA 248 t4 (e1 70)) fun t5 w =>
 o pr E w (sLoad 253 t5) fun t6 w =>
 o pr E w (sAlloc 253) fun t7 w =>
 o pr E w (sStore 253 t7 t6) fun _ w =>
 o pr E w (sFA 253 t7 0) fun t8 w =>
 o pr E w (sLoad 4 t8) fun t9 w =>
 o pr E w (sUn .not 4 t9) fun t10 w =>
 condP t10 (j1 [] w)
  (o pr E w (sFA 49 t11 0) fun t12 w =>
 o pr E w (sLoad 47 t12) fun t13 w =>
 o pr E w (sIA 47 t13 (e1 70)) fun t14 w =>
 o pr E w (sFA 103 t14 0) fun t15 w =>
 o pr E w (sStore 4 t15 (Value.bool true)) fun _ w =>
 o pr E w (sFA 253 t7 1) fun t16 w =>
 o pr E w (sLoad 251 t16) fun t17 w =>
 ∃ (I2 : List Value → World → Prop) (m2 : List Value → World → Nat), I2 [(Value.int IntKind.i64 0)] w ∧
 ∀ (e3 : Nat → Value) w2, I2 [e3 85] w2 → (ct_analysis_solve_Span_1 E e3 t17 t11 e1 a2 I2 m2 w2 j1) w2))
  (o pr E w (sLoad 49 t11) fun t18 w =>
 o pr E w (sStore 49 t19 t18) fun _ w =>
 rs pr w t19 49 fun v1_0 =>
 K v1_0 w))
def ct_analysis_solve_Span_3 (E : PanicK) (e1 : Nat → Value) (a2 : Value) (t3 : Value) (I1 : List Value → World → Prop) (m1 : List Value → World → Nat) (w1 : World) (a0 : Value) (t11 : Value) (t32 : Value) (K : Value → World → Prop) : World → Prop :=
 (fun w =>
 o pr E w (sBinC .lss 3 (e1 31) (Value.int IntKind.i64 8) 3) fun t1 w =>
 condP t1 (o pr E w (sInvoke a2 "Only" [(Value.int IntKind.i64 0)]) fun t2 w =>
 o pr E w (sFA 253 t3 1) fun t4 w =>
 o pr E w (sIA 251 t4 (e1 31)) fun t5 w =>
 o pr E w (sStore 162 t5 t2) fun _ w =>
 o pr E w (sBinC .add 3 (e1 31) (Value.int IntKind.i64 1) 3) fun t6 w =>
 I1 [t6] w ∧ m1 [t6] w < m1 [e1 31] w1)
  ((fun w =>
 oz pr (sNil a0) fun t7 =>
 oz pr (sFA 121 t7 0) fun t8 =>
 oa pr w (sLoad 119 t8) fun t9 =>
 oa pr w (sLoad 253 t3) fun t10 =>
 (cl pr E w n_sv_list #[t11, t9, t10] fun t12 w =>
 o pr E w (sAlloc 253) fun t13 w =>
 o pr E w (sStore 253 t13 t12) fun _ w =>
 (fun w =>
 oz pr (sNil a0) fun t14 =>
 oz pr (sFA 121 t14 1) fun t15 =>
 oa pr w (sLoad 3 t15) fun t16 =>
 oz pr (sBinC .sub 3 t16 (Value.int IntKind.i64 1) 3) fun t17 =>
 oa pr w (sLoad 253 t13) fun t18 =>
 cl pr E w n_sv_come #[t11, t17, t18] fun _ w =>
 (fun w =>
 oz pr (sNil a0) fun t19 =>
 oz pr (sFA 121 t19 1) fun t20 =>
 oa pr w (sLoad 3 t20) fun t21 =>
 oz pr (sNil t11) fun t22 =>
 oz pr (sFA 250 t22 3) fun t23 =>
 oa pr w (sLoad 22 t23) fun t24 =>
 (o pr E w (sMake 47 t21 t21) fun t25 w =>
 rk pr w (sLoad 22 t23) t24 ∧
 oz pr (sBuild 49 [(0, t25), (1, t24)]) fun t26 =>
 o pr E w (sAlloc 49) fun t27 w =>
 rk pr w (sLoad 22 t23) t24 ∧
 o pr E w (sStore 49 t27 t26) fun _ w =>
 o pr E w (sNil t11) fun t28 w =>
 o pr E w (sFA 250 t28 2) fun t29 w =>
 o pr E w (sLoad 248 t29) fun t30 w =>
 o pr E w (sB .len [248] 3 [t30]) fun t31 w =>
 ∃ (I2 : List Value → World → Prop) (m2 : List Value → World → Nat), I2 [(Value.int IntKind.i64 0)] w ∧
 ∀ (e2 : Nat → Value) w2, I2 [e2 70] w2 → (ct_analysis_solve_Span_2 E e2 t31 I2 m2 w2 t30 t27 a2 t32 K) w2) ∧
 (o pr E w (sAlloc 49) fun t33 w =>
 rk pr w (sLoad 22 t23) t24 ∧
 rk pr w (sLoad 3 t20) t21 ∧
 o pr E w (sMake 47 t21 t21) fun t34 w =>
 rk pr w (sLoad 22 t23) t24 ∧
 oz pr (sBuild 49 [(0, t34), (1, t24)]) fun t35 =>
 o pr E w (sStore 49 t33 t35) fun _ w =>
 o pr E w (sNil t11) fun t36 w =>
 o pr E w (sFA 250 t36 2) fun t37 w =>
 o pr E w (sLoad 248 t37) fun t38 w =>
 o pr E w (sB .len [248] 3 [t38]) fun t39 w =>
 ∃ (I3 : List Value → World → Prop) (m3 : List Value → World → Nat), I3 [(Value.int IntKind.i64 0)] w ∧
 ∀ (e3 : Nat → Value) w3, I3 [e3 70] w3 → (ct_analysis_solve_Span_2 E e3 t39 I3 m3 w3 t38 t33 a2 t32 K) w3)) (dr w)) (dr w)) ∧
 (o pr E w (sAlloc 253) fun t40 w =>
 rk pr w (sLoad 253 t3) t10 ∧
 rk pr w (sLoad 119 t8) t9 ∧
 cl pr E w n_sv_list #[t11, t9, t10] fun t41 w =>
 o pr E w (sStore 253 t40 t41) fun _ w =>
 (fun w =>
 oz pr (sNil a0) fun t42 =>
 oz pr (sFA 121 t42 1) fun t43 =>
 oa pr w (sLoad 3 t43) fun t44 =>
 oz pr (sBinC .sub 3 t44 (Value.int IntKind.i64 1) 3) fun t45 =>
 oa pr w (sLoad 253 t40) fun t46 =>
 cl pr E w n_sv_come #[t11, t45, t46] fun _ w =>
 (fun w =>
 oz pr (sNil a0) fun t47 =>
 oz pr (sFA 121 t47 1) fun t48 =>
 oa pr w (sLoad 3 t48) fun t49 =>
 oz pr (sNil t11) fun t50 =>
 oz pr (sFA 250 t50 3) fun t51 =>
 oa pr w (sLoad 22 t51) fun t52 =>
 (o pr E w (sMake 47 t49 t49) fun t53 w =>
 rk pr w (sLoad 22 t51) t52 ∧
 oz pr (sBuild 49 [(0, t53), (1, t52)]) fun t54 =>
 o pr E w (sAlloc 49) fun t55 w =>
 rk pr w (sLoad 22 t51) t52 ∧
 o pr E w (sStore 49 t55 t54) fun _ w =>
 o pr E w (sNil t11) fun t56 w =>
 o pr E w (sFA 250 t56 2) fun t57 w =>
 o pr E w (sLoad 248 t57) fun t58 w =>
 o pr E w (sB .len [248] 3 [t58]) fun t59 w =>
 ∃ (I4 : List Value → World → Prop) (m4 : List Value → World → Nat), I4 [(Value.int IntKind.i64 0)] w ∧
 ∀ (e4 : Nat → Value) w4, I4 [e4 70] w4 → (ct_analysis_solve_Span_2 E e4 t59 I4 m4 w4 t58 t55 a2 t32 K) w4) ∧
 (o pr E w (sAlloc 49) fun t60 w =>
 rk pr w (sLoad 22 t51) t52 ∧
 rk pr w (sLoad 3 t48) t49 ∧
 o pr E w (sMake 47 t49 t49) fun t61 w =>
 rk pr w (sLoad 22 t51) t52 ∧
 oz pr (sBuild 49 [(0, t61), (1, t52)]) fun t62 =>
 o pr E w (sStore 49 t60 t62) fun _ w =>
 o pr E w (sNil t11) fun t63 w =>
 o pr E w (sFA 250 t63 2) fun t64 w =>
 o pr E w (sLoad 248 t64) fun t65 w =>
 o pr E w (sB .len [248] 3 [t65]) fun t66 w =>
 ∃ (I5 : List Value → World → Prop) (m5 : List Value → World → Nat), I5 [(Value.int IntKind.i64 0)] w ∧
 ∀ (e5 : Nat → Value) w5, I5 [e5 70] w5 → (ct_analysis_solve_Span_2 E e5 t66 I5 m5 w5 t65 t60 a2 t32 K) w5)) (dr w)) (dr w))) (dr w)))
def sh_analysis_solve_Span (K : Value → World → Prop) (E : PanicK) (a0 a1 a2 : Value) (w : World) : Prop :=
 o pr E w (sBox 45 a1) fun t4 w =>
 o pr E w (sAlloc 49) fun t6 w =>
 (fun w =>
 oa pr w (sLoad 45 t4) fun t17 =>
 oz pr (sNil a0) fun t19 =>
 oz pr (sFA 121 t19 1) fun t20 =>
 oa pr w (sLoad 3 t20) fun t21 =>
 oz pr (sNil a0) fun t24 =>
 oz pr (sFA 121 t24 2) fun t25 =>
 oa pr w (sLoad 3 t25) fun t26 =>
 (o pr E w (sMake 248 t21 t21) fun t22 w =>
 rk pr w (sLoad 3 t25) t26 ∧
 rk pr w (sLoad 45 t4) t17 ∧
 o pr E w (sMake 22 t26 t26) fun t27 w =>
 rk pr w (sLoad 45 t4) t17 ∧
 oz pr (sBuild 250 [(0, a2), (1, t17), (2, t22), (3, t27)]) fun t28 =>
 o pr E w (sBox 250 t28) fun t29 w =>
 o pr E w (sBuild 253 [(0, (Value.bool true))]) fun t30 w =>
 o pr E w (sAlloc 253) fun t8 w =>
 o pr E w (sStore 253 t8 t30) fun _ w =>
 ∃ (I1 : List Value → World → Prop) (m1 : List Value → World → Nat), I1 [(Value.int IntKind.i64 0)] w ∧
 ∀ (e1 : Nat → Value) w1, I1 [e1 31] w1 → (ct_analysis_solve_Span_3 E e1 a2 t8 I1 m1 w1 a0 t29 t6 K) w1) ∧
 (o pr E w (sMake 22 t26 t26) fun t27_1 w =>
 rk pr w (sLoad 3 t20) t21 ∧
 rk pr w (sLoad 45 t4) t17 ∧
 o pr E w (sMake 248 t21 t21) fun t22_1 w =>
 rk pr w (sLoad 45 t4) t17 ∧
 oz pr (sBuild 250 [(0, a2), (1, t17), (2, t22_1), (3, t27_1)]) fun t28_1 =>
 o pr E w (sBox 250 t28_1) fun t29_1 w =>
 o pr E w (sBuild 253 [(0, (Value.bool true))]) fun t30_1 w =>
 o pr E w (sAlloc 253) fun t8_1 w =>
 o pr E w (sStore 253 t8_1 t30_1) fun _ w =>
 ∃ (I14 : List Value → World → Prop) (m14 : List Value → World → Nat), I14 [(Value.int IntKind.i64 0)] w ∧
 ∀ (e14 : Nat → Value) w14, I14 [e14 31] w14 → (ct_analysis_solve_Span_3 E e14 a2 t8_1 I14 m14 w14 a0 t29_1 t6 K) w14)) (dr w)
def lv_analysis_solve_Span : Lives := [(1, [0, 2, 4, 6]), (2, [0, 2, 6, 7]), (3, [0, 2, 6, 7, 8]), (4, [0, 2, 6, 7, 8, 31]), (5, [0, 2, 6, 7, 8, 31, 32]), (6, [0, 2, 6, 7, 8, 9, 31]), (7, [0, 2, 6, 7, 8, 31]), (8, [0, 2, 6, 7, 8]), (9, [0, 2, 6, 7, 10]), (10, [0, 2, 6, 7]), (11, [2, 6, 7, 11]), (12, [2, 6, 11, 68, 69, 70]), (13, [2, 6, 11, 68, 69, 70, 71]), (14, [2, 6, 11, 12, 13, 68, 69, 70]), (15, [2, 6, 11, 12, 13, 68, 69, 70]), (16, [2, 6, 11, 12, 13, 68, 69, 70]), (17, [2, 6, 11, 12, 68, 69, 70, 84, 85]), (18, [2, 6, 11, 12, 68, 69, 70, 84, 85, 86]), (19, [2, 6, 11, 12, 14, 15, 68, 69, 70, 84, 85]), (20, [2, 6, 11, 12, 68, 69, 70, 84, 85]), (21, [2, 6, 11, 68, 69, 70]), (22, [6, 11])]
theorem sh_analysis_solve_Span_ok (a0 a1 a2 : Value) (w : World) (R : Ending → World → Prop)
 (h : sh_analysis_solve_Span (fun v w => R (.returned v) w) (fun c w => R (.panicked c) w) a0 a1 a2 w) : Calls pr n_analysis_solve_Span #[a0, a1, a2] w R :=
 calls_of_W (A := lv_analysis_solve_Span) enters mixed Go.Proofs.Tryz.func61 (by kernel_rfl) (by kernel_rfl) (by kernel_rfl)
  (Eq.mp (by kernel_rfl) h)
def sh_analysis_Analyze (K : Value → World → Prop) (E : PanicK) (a0 a1 : Value) (w : World) : Prop :=
 o pr E w (sBox 45 a1) fun t3 w =>
 o pr E w (sAlloc 49) fun t4 w =>
 o pr E w (sFA 45 t3 0) fun t8 w =>
 o pr E w (sLoad 3 t8) fun t9 w =>
 o pr E w (sBinC .eql 3 t9 (Value.int IntKind.i64 1) 3) fun t10 w =>
 condP t10 (o pr E w (sLoad 45 t3) fun t12 w =>
 o pr E w (sBuild 159 []) fun t13 w =>
 o pr E w (sIface 159 t13) fun t14 w =>
 cl pr E w n_analysis_solve_Class #[a0, t12, t14] fun t15 w =>
 o pr E w (sStore 49 t4 t15) fun _ w =>
 rs pr w t4 49 fun v0_0 =>
 K v0_0 w)
  (∃ j1 : List Value → World → Prop, (∀ (e1 : Nat → Value) w, j1 [e1 5] w →
 o pr E w (sLoad 45 t3) fun t35 w =>
 o pr E w (sBuild 166 [(0, (e1 5))]) fun t37 w =>
 o pr E w (sIface 166 t37) fun t38 w =>
 cl pr E w n_analysis_solve_Span #[a0, t35, t38] fun t39 w =>
 o pr E w (sStore 49 t4 t39) fun _ w =>
 rs pr w t4 49 fun v0_1 =>
 K v0_1 w) ∧
 o pr E w (sFA 45 t3 4) fun t16 w =>
 o pr E w (sLoad 4 t16) fun t17 w =>
 condP t17 (o pr E w (sNil a0) fun t19 w =>
 o pr E w (sFA 121 t19 3) fun t20 w =>
 o pr E w (sLoad 22 t20) fun t21 w =>
 o pr E w (sB .len [22] 3 [t21]) fun t22 w =>
 ∃ (I2 : List Value → World → Prop) (m2 : List Value → World → Nat), I2 [(Value.slice none 0 0), (Value.int IntKind.i64 0)] w ∧
 ∀ (e2 : Nat → Value) w2, I2 [e2 5, e2 23] w2 → (fun w =>
 o pr E w (sBin .lss 3 (e2 23) t22 3) fun t24 w =>
 condP t24 (o pr E w (sIA 22 t21 (e2 23)) fun t25 w =>
 o pr E w (sLoad 3 t25) fun t26 w =>
 o pr E w (sUn .neg 3 t26) fun t30 w =>
 o pr E w (sBuildSlice 22 2 [(0, t26), (1, t30)]) fun t31 w =>
 o pr E w (sB .append [22, 22] 22 [(e2 5), t31]) fun t32 w =>
 o pr E w (sBinC .add 3 (e2 23) (Value.int IntKind.i64 1) 3) fun t33 w =>
 I2 [t32, t33] w ∧ m2 [t32, t33] w < m2 [e2 5, e2 23] w2)
  (j1 [(e2 5)] w)) w2)
  (j1 [(Value.slice none 0 0)] w))
def lv_analysis_Analyze : Lives := [(1, [0, 3, 4]), (2, [0, 3, 4, 10]), (3, [0, 3, 4]), (4, [0, 3, 4, 5]), (5, [0, 3, 4, 5, 17]), (6, [0, 3, 4, 5, 21, 22, 23]), (7, [0, 3, 4, 5, 21, 22, 23, 24]), (8, [0, 3, 4, 5, 7, 21, 22, 23]), (9, [0, 3, 4, 5, 21, 22, 23]), (10, [0, 3, 4, 5])]
theorem sh_analysis_Analyze_ok (a0 a1 : Value) (w : World) (R : Ending → World → Prop)
 (h : sh_analysis_Analyze (fun v w => R (.returned v) w) (fun c w => R (.panicked c) w) a0 a1 w) : Calls pr n_analysis_Analyze #[a0, a1] w R :=
 calls_of_W (A := lv_analysis_Analyze) enters mixed Go.Proofs.Tryz.func39 (by kernel_rfl) (by kernel_rfl) (by kernel_rfl)
  (Eq.mp (by kernel_rfl) h)
def sh_inv_Analyze (K : Value → World → Prop) (E : PanicK) (a0 a1 : Value) (w : World) : Prop :=
 o pr E w (sBox 45 a1) fun t3 w =>
 o pr E w (sAlloc 49) fun t4 w =>
 cl pr E w n_text_Read #[a0] fun t12 w =>
 o pr E w (sExt t12 0) fun t13 w =>
 o pr E w (sExt t12 1) fun t14 w =>
 o pr E w (sBinC .neq 30 t14 (Value.nilIface) 30) fun t16 w =>
 condP t16 (o pr E w (sBuild 49 []) fun t17 w =>
 o pr E w (sStore 49 t4 t17) fun _ w =>
 rs pr w t4 49 fun v0_0 =>
 K (.tuple #[v0_0, t14]) w)
  (o pr E w (sFA 45 t3 0) fun t19 w =>
 o pr E w (sLoad 3 t19) fun t20 w =>
 o pr E w (sBuild 105 [(0, t20), (1, (Value.int IntKind.i64 1))]) fun t21 w =>
 o pr E w (sFA 45 t3 1) fun t22 w =>
 o pr E w (sLoad 3 t22) fun t23 w =>
 o pr E w (sBuild 105 [(0, t23), (1, (Value.int IntKind.i64 4))]) fun t24 w =>
 o pr E w (sFA 45 t3 2) fun t25 w =>
 o pr E w (sLoad 3 t25) fun t26 w =>
 o pr E w (sBuild 105 [(0, t26), (1, (Value.int IntKind.i64 3))]) fun t27 w =>
 o pr E w (sFA 45 t3 3) fun t28 w =>
 o pr E w (sLoad 3 t28) fun t29 w =>
 o pr E w (sBuild 105 [(0, t29), (1, (Value.int IntKind.i64 3))]) fun t30 w =>
 o pr E w (sBuild 106 [(0, t21), (1, t24), (2, t27), (3, t30)]) fun t31 w =>
 ∃ (I1 : List Value → World → Prop) (m1 : List Value → World → Nat), I1 [(Value.int IntKind.i64 0)] w ∧
 ∀ (e1 : Nat → Value) w1, I1 [e1 32] w1 → (fun w =>
 o pr E w (sBinC .lss 3 (e1 32) (Value.int IntKind.i64 4) 3) fun t33 w =>
 condP t33 (o pr E w (sIdx 106 t31 (e1 32)) fun t34 w =>
 o pr E w (sAlloc 105) fun t9 w =>
 o pr E w (sStore 105 t9 t34) fun _ w =>
 (fun (k7 : Value → World → Prop) =>
 o pr E w (sIA 105 t9 (Value.int IntKind.i64 0)) fun t35 w =>
 o pr E w (sLoad 3 t35) fun t36 w =>
 o pr E w (sBinC .lss 3 t36 (Value.int IntKind.i64 0) 3) fun t37 w =>
 condG t37 false (o pr E w (sIA 105 t9 (Value.int IntKind.i64 0)) fun t39 w =>
 o pr E w (sLoad 3 t39) fun t40 w =>
 o pr E w (sIA 105 t9 (Value.int IntKind.i64 1)) fun t41 w =>
 o pr E w (sLoad 3 t41) fun t42 w =>
 o pr E w (sBin .gtr 3 t40 t42 3) fun t43 w =>
 o pr E w (sPick t37 (Value.bool true) t43) fun t44_1 w =>
 k7 t44_1 w)
  (o pr E w (sPick t37 (Value.bool true) undef) fun t44_2 w =>
 k7 t44_2 w))
 (fun t44 w =>
 condP t44 (o pr E w (sBuild 49 []) fun t45 w =>
 o pr E w (sIface 33 (Value.int IntKind.i64 5)) fun t46 w =>
 o pr E w (sStore 49 t4 t45) fun _ w =>
 rs pr w t4 49 fun v0_1 =>
 K (.tuple #[v0_1, t46]) w)
  (o pr E w (sBinC .add 3 (e1 32) (Value.int IntKind.i64 1) 3) fun t47 w =>
 I1 [t47] w ∧ m1 [t47] w < m1 [e1 32] w1)))
  (o pr E w (sLoad 45 t3) fun t49 w =>
 cl pr E w n_analysis_Analyze #[t13, t49] fun t50 w =>
 o pr E w (sStore 49 t4 t50) fun _ w =>
 rs pr w t4 49 fun v0_2 =>
 K (.tuple #[v0_2, (Value.nilIface)]) w)) w1)
def lv_inv_Analyze : Lives := [(1, [0, 3, 4]), (2, [3, 4, 6, 7]), (3, [3, 4, 6, 7, 16]), (4, [3, 4, 6]), (5, [3, 4, 6, 31, 32]), (6, [3, 4, 6, 31, 32, 33]), (7, [3, 4, 6, 9, 31, 32]), (8, [3, 4, 6, 31, 32, 44]), (9, [3, 4, 6, 31, 32]), (10, [3, 4, 6])]
theorem sh_inv_Analyze_ok (a0 a1 : Value) (w : World) (R : Ending → World → Prop)
 (h : sh_inv_Analyze (fun v w => R (.returned v) w) (fun c w => R (.panicked c) w) a0 a1 w) : Calls pr n_inv_Analyze #[a0, a1] w R :=
 calls_of_W (A := lv_inv_Analyze) enters mixed Go.Proofs.Tryz.func21 (by kernel_rfl) (by kernel_rfl) (by kernel_rfl)
  (Eq.mp (by kernel_rfl) h)
def sh_law_knows (K : Value → World → Prop) (E : PanicK) (a0 : Value) (w : World) : Prop :=
 o pr E w (sBuild 45 [(0, a0)]) fun t10 w =>
 cl pr E w n_inv_Analyze #[(Value.string (S [97, 32, 61, 32, 54, 59, 32, 98, 32, 61, 32, 97, 32, 47, 32, 50, 59, 32, 114, 101, 97, 100, 32, 99, 59, 32, 97, 115, 115, 101, 114, 116, 32, 99, 32, 33, 61, 32, 49, 59])), t10] fun t11 w =>
 o pr E w (sExt t11 0) fun t12 w =>
 o pr E w (sExt t11 1) fun t13 w =>
 o pr E w (sAlloc 49) fun t3 w =>
 o pr E w (sStore 49 t3 t12) fun _ w =>
 cl pr E w n_api_Tell #[t13] fun t16 w =>
 o pr E w (sExt t16 0) fun t17 w =>
 o pr E w (sExt t16 1) fun _ w =>
 (fun (k3 : Value → World → Prop) =>
 cl pr E w n_law_num #[t17] fun t20 w =>
 o pr E w (sBinC .neq 3 t20 (Value.int IntKind.i64 0) 3) fun t21 w =>
 condG t21 false (o pr E w (sFA 49 t3 0) fun t23 w =>
 o pr E w (sLoad 47 t23) fun t24 w =>
 o pr E w (sB .len [47] 3 [t24]) fun t25 w =>
 o pr E w (sBinC .neq 3 t25 (Value.int IntKind.i64 5) 3) fun t26 w =>
 o pr E w (sPick t21 (Value.bool true) t26) fun t27 w =>
 condG t27 false (o pr E w (sFA 49 t3 1) fun t29 w =>
 o pr E w (sLoad 22 t29) fun t30 w =>
 o pr E w (sB .len [22] 3 [t30]) fun t31 w =>
 o pr E w (sBinC .neq 3 t31 (Value.int IntKind.i64 2) 3) fun t32 w =>
 o pr E w (sPick t27 (Value.bool true) t32) fun t33_1 w =>
 k3 t33_1 w)
  (o pr E w (sPick t27 (Value.bool true) undef) fun t33_2 w =>
 k3 t33_2 w))
  (o pr E w (sPick t21 (Value.bool true) undef) fun t27_1 w =>
 condG t27_1 false (o pr E w (sFA 49 t3 1) fun t29_1 w =>
 o pr E w (sLoad 22 t29_1) fun t30_1 w =>
 o pr E w (sB .len [22] 3 [t30_1]) fun t31_1 w =>
 o pr E w (sBinC .neq 3 t31_1 (Value.int IntKind.i64 2) 3) fun t32_1 w =>
 o pr E w (sPick t27_1 (Value.bool true) t32_1) fun t33_3 w =>
 k3 t33_3 w)
  (o pr E w (sPick t27_1 (Value.bool true) undef) fun t33_4 w =>
 k3 t33_4 w)))
 (fun t33 w =>
 condP t33 (K (Value.bool false) w)
  (o pr E w (sFA 49 t3 0) fun t34 w =>
 o pr E w (sLoad 47 t34) fun t35 w =>
 o pr E w (sIA 47 t35 (Value.int IntKind.i64 4)) fun t36 w =>
 o pr E w (sFA 103 t36 1) fun t37 w =>
 o pr E w (sIA 101 t37 (Value.int IntKind.i64 1)) fun t38 w =>
 o pr E w (sLoad 100 t38) fun t39 w =>
 o pr E w (sAlloc 100) fun t7 w =>
 o pr E w (sStore 100 t7 t39) fun _ w =>
 (fun (k6 : Value → World → Prop) =>
 o pr E w (sFA 49 t3 0) fun t40 w =>
 o pr E w (sLoad 47 t40) fun t41 w =>
 o pr E w (sIA 47 t41 (Value.int IntKind.i64 4)) fun t42 w =>
 o pr E w (sFA 103 t42 0) fun t43 w =>
 o pr E w (sLoad 4 t43) fun t44 w =>
 condG t44 true (o pr E w (sFA 100 t7 1) fun t46 w =>
 o pr E w (sLoad 2 t46) fun t47 w =>
 o pr E w (sBinC .eql 2 t47 (Value.int IntKind.i64 3) 2) fun t48 w =>
 o pr E w (sPick t44 t48 (Value.bool false)) fun t49 w =>
 condG t49 true (o pr E w (sFA 49 t3 1) fun t51 w =>
 o pr E w (sLoad 22 t51) fun t52 w =>
 o pr E w (sIA 22 t52 (Value.int IntKind.i64 0)) fun t53 w =>
 o pr E w (sLoad 3 t53) fun t54 w =>
 o pr E w (sBinC .eql 3 t54 (Value.int IntKind.i64 1) 3) fun t55 w =>
 o pr E w (sPick t49 t55 (Value.bool false)) fun t56 w =>
 condG t56 true (o pr E w (sFA 49 t3 1) fun t58 w =>
 o pr E w (sLoad 22 t58) fun t59 w =>
 o pr E w (sIA 22 t59 (Value.int IntKind.i64 1)) fun t60 w =>
 o pr E w (sLoad 3 t60) fun t61 w =>
 o pr E w (sBinC .eql 3 t61 (Value.int IntKind.i64 2) 3) fun t62 w =>
 o pr E w (sPick t56 t62 (Value.bool false)) fun t63 w =>
 k6 t63 w)
  (o pr E w (sPick t56 undef (Value.bool false)) fun t63_1 w =>
 k6 t63_1 w))
  (o pr E w (sPick t49 undef (Value.bool false)) fun t56_1 w =>
 condG t56_1 true (o pr E w (sFA 49 t3 1) fun t58_1 w =>
 o pr E w (sLoad 22 t58_1) fun t59_1 w =>
 o pr E w (sIA 22 t59_1 (Value.int IntKind.i64 1)) fun t60_1 w =>
 o pr E w (sLoad 3 t60_1) fun t61_1 w =>
 o pr E w (sBinC .eql 3 t61_1 (Value.int IntKind.i64 2) 3) fun t62_1 w =>
 o pr E w (sPick t56_1 t62_1 (Value.bool false)) fun t63_2 w =>
 k6 t63_2 w)
  (o pr E w (sPick t56_1 undef (Value.bool false)) fun t63_3 w =>
 k6 t63_3 w)))
  (o pr E w (sPick t44 undef (Value.bool false)) fun t49_1 w =>
 condG t49_1 true (o pr E w (sFA 49 t3 1) fun t51_1 w =>
 o pr E w (sLoad 22 t51_1) fun t52_1 w =>
 o pr E w (sIA 22 t52_1 (Value.int IntKind.i64 0)) fun t53_1 w =>
 o pr E w (sLoad 3 t53_1) fun t54_1 w =>
 o pr E w (sBinC .eql 3 t54_1 (Value.int IntKind.i64 1) 3) fun t55_1 w =>
 o pr E w (sPick t49_1 t55_1 (Value.bool false)) fun t56_2 w =>
 condG t56_2 true (o pr E w (sFA 49 t3 1) fun t58_2 w =>
 o pr E w (sLoad 22 t58_2) fun t59_2 w =>
 o pr E w (sIA 22 t59_2 (Value.int IntKind.i64 1)) fun t60_2 w =>
 o pr E w (sLoad 3 t60_2) fun t61_2 w =>
 o pr E w (sBinC .eql 3 t61_2 (Value.int IntKind.i64 2) 3) fun t62_2 w =>
 o pr E w (sPick t56_2 t62_2 (Value.bool false)) fun t63_4 w =>
 k6 t63_4 w)
  (o pr E w (sPick t56_2 undef (Value.bool false)) fun t63_5 w =>
 k6 t63_5 w))
  (o pr E w (sPick t49_1 undef (Value.bool false)) fun t56_3 w =>
 condG t56_3 true (o pr E w (sFA 49 t3 1) fun t58_3 w =>
 o pr E w (sLoad 22 t58_3) fun t59_3 w =>
 o pr E w (sIA 22 t59_3 (Value.int IntKind.i64 1)) fun t60_3 w =>
 o pr E w (sLoad 3 t60_3) fun t61_3 w =>
 o pr E w (sBinC .eql 3 t61_3 (Value.int IntKind.i64 2) 3) fun t62_3 w =>
 o pr E w (sPick t56_3 t62_3 (Value.bool false)) fun t63_6 w =>
 k6 t63_6 w)
  (o pr E w (sPick t56_3 undef (Value.bool false)) fun t63_7 w =>
 k6 t63_7 w))))
 (fun t2 w =>
 K t2 w)))
def lv_law_knows : Lives := [(1, [0]), (2, [3, 4]), (3, [3, 5]), (4, [3, 33]), (5, [3]), (6, [3, 7])]
theorem sh_law_knows_ok (a0 : Value) (w : World) (R : Ending → World → Prop)
 (h : sh_law_knows (fun v w => R (.returned v) w) (fun c w => R (.panicked c) w) a0 w) : Calls pr n_law_knows #[a0] w R :=
 calls_of_W (A := lv_law_knows) enters mixed Go.Proofs.Tryz.func19 (by kernel_rfl) (by kernel_rfl) (by kernel_rfl)
  (Eq.mp (by kernel_rfl) h)
def sh_law_config (K : Value → World → Prop) (E : PanicK) (a0 a1 a2 a3 a4 : Value) (w : World) : Prop :=
 o pr E w (sAlloc 45) fun t10 w =>
 o pr E w (sBuild 45 [(0, a0), (4, a4)]) fun t14 w =>
 o pr E w (sAlloc 45) fun t11 w =>
 o pr E w (sStore 45 t11 t14) fun _ w =>
 o pr E w (sConv 3 104 a1) fun t16 w =>
 o pr E w (sBinC .rem 104 t16 (Value.int IntKind.u64 5) 104) fun t17 w =>
 o pr E w (sConv 104 3 t17) fun t18 w =>
 o pr E w (sFA 45 t11 1) fun t19 w =>
 o pr E w (sStore 3 t19 t18) fun _ w =>
 o pr E w (sConv 3 104 a2) fun t21 w =>
 o pr E w (sBinC .rem 104 t21 (Value.int IntKind.u64 4) 104) fun t22 w =>
 o pr E w (sConv 104 3 t22) fun t23 w =>
 o pr E w (sFA 45 t11 2) fun t24 w =>
 o pr E w (sStore 3 t24 t23) fun _ w =>
 o pr E w (sConv 3 104 a3) fun t26 w =>
 o pr E w (sBinC .rem 104 t26 (Value.int IntKind.u64 4) 104) fun t27 w =>
 o pr E w (sConv 104 3 t27) fun t28 w =>
 o pr E w (sFA 45 t11 3) fun t29 w =>
 o pr E w (sStore 3 t29 t28) fun _ w =>
 o pr E w (sLoad 45 t11) fun t30 w =>
 o pr E w (sStore 45 t10 t30) fun _ w =>
 rs pr w t10 45 fun v0_0 =>
 K v0_0 w
def lv_law_config : Lives := [(1, [0, 1, 2, 3, 4, 10]), (2, [1, 2, 3, 10, 11]), (3, [2, 3, 10, 11]), (4, [3, 10, 11]), (5, [10, 11])]
theorem sh_law_config_ok (a0 a1 a2 a3 a4 : Value) (w : World) (R : Ending → World → Prop)
 (h : sh_law_config (fun v w => R (.returned v) w) (fun c w => R (.panicked c) w) a0 a1 a2 a3 a4 w) : Calls pr n_law_config #[a0, a1, a2, a3, a4] w R :=
 calls_of_W (A := lv_law_config) enters mixed Go.Proofs.Tryz.func20 (by kernel_rfl) (by kernel_rfl) (by kernel_rfl)
  (Eq.mp (by kernel_rfl) h)
def sh_law_word (K : Value → World → Prop) (E : PanicK) (a0 a1 : Value) (w : World) : Prop :=
 ∃ (I1 : List Value → World → Prop) (m1 : List Value → World → Nat), I1 [(Value.int IntKind.i64 0)] w ∧
 ∀ (e1 : Nat → Value) w1, I1 [e1 5] w1 → (fun w =>
 o pr E w (sB .len [9] 3 [a1]) fun t8 w =>
 o pr E w (sBin .add 3 (e1 5) t8 3) fun t9 w =>
 o pr E w (sB .len [9] 3 [a0]) fun t11 w =>
 o pr E w (sBin .leq 3 t9 t11 3) fun t12 w =>
 condP t12 (o pr E w (sB .len [9] 3 [a1]) fun t19 w =>
 o pr E w (sBin .add 3 (e1 5) t19 3) fun t20 w =>
 o pr E w (sSlice 9 a0 (some (e1 5)) (some t20) none) fun t21 w =>
 o pr E w (sBin .eql 9 t21 a1 9) fun t23 w =>
 condP t23 (K (Value.bool true) w)
  (o pr E w (sBinC .add 3 (e1 5) (Value.int IntKind.i64 1) 3) fun t14 w =>
 I1 [t14] w ∧ m1 [t14] w < m1 [e1 5] w1))
  (K (Value.bool false) w)) w1
def lv_law_word : Lives := [(1, [0, 1]), (2, [0, 1, 5]), (3, [0, 1, 5]), (4, [0, 1, 5]), (5, [0, 1, 5, 23]), (6, [])]
theorem sh_law_word_ok (a0 a1 : Value) (w : World) (R : Ending → World → Prop)
 (h : sh_law_word (fun v w => R (.returned v) w) (fun c w => R (.panicked c) w) a0 a1 w) : Calls pr n_law_word #[a0, a1] w R :=
 calls_of_W (A := lv_law_word) enters mixed Go.Proofs.Tryz.func22 (by kernel_rfl) (by kernel_rfl) (by kernel_rfl)
  (Eq.mp (by kernel_rfl) h)
def sh_law_sameReports (K : Value → World → Prop) (E : PanicK) (a0 a1 : Value) (w : World) : Prop :=
 o pr E w (sBox 49 a0) fun t2 w =>
 o pr E w (sBox 49 a1) fun t3 w =>
 (fun (k1 : Value → World → Prop) =>
 o pr E w (sFA 49 t2 0) fun t7 w =>
 o pr E w (sLoad 47 t7) fun t8 w =>
 o pr E w (sB .len [47] 3 [t8]) fun t9 w =>
 o pr E w (sFA 49 t3 0) fun t10 w =>
 o pr E w (sLoad 47 t10) fun t11 w =>
 o pr E w (sB .len [47] 3 [t11]) fun t12 w =>
 o pr E w (sBin .neq 3 t9 t12 3) fun t13 w =>
 condG t13 false (o pr E w (sFA 49 t2 1) fun t15 w =>
 o pr E w (sLoad 22 t15) fun t16 w =>
 o pr E w (sB .len [22] 3 [t16]) fun t17 w =>
 o pr E w (sFA 49 t3 1) fun t18 w =>
 o pr E w (sLoad 22 t18) fun t19 w =>
 o pr E w (sB .len [22] 3 [t19]) fun t20 w =>
 o pr E w (sBin .neq 3 t17 t20 3) fun t21 w =>
 o pr E w (sPick t13 (Value.bool true) t21) fun t22_1 w =>
 k1 t22_1 w)
  (o pr E w (sPick t13 (Value.bool true) undef) fun t22_2 w =>
 k1 t22_2 w))
 (fun t22 w =>
 condP t22 (K (Value.bool false) w)
  (∃ (I1 : List Value → World → Prop) (m1 : List Value → World → Nat), I1 [(Value.int IntKind.i64 0)] w ∧
 ∀ (e1 : Nat → Value) w1, I1 [e1 5] w1 → (fun w =>
 o pr E w (sFA 49 t2 0) fun t24 w =>
 o pr E w (sLoad 47 t24) fun t25 w =>
 o pr E w (sB .len [47] 3 [t25]) fun t26 w =>
 o pr E w (sBin .lss 3 (e1 5) t26 3) fun t27 w =>
 condP t27 ((fun w =>
 oz pr (sFA 49 t2 0) fun t30 =>
 oa pr w (sLoad 47 t30) fun t31 =>
 oz pr (sIA 47 t31 (e1 5)) fun t33 =>
 oa pr w (sLoad 103 t33) fun t34 =>
 oz pr (sFA 49 t3 0) fun t35 =>
 oa pr w (sLoad 47 t35) fun t36 =>
 oz pr (sIA 47 t36 (e1 5)) fun t38 =>
 oa pr w (sLoad 103 t38) fun t39 =>
 oz pr (sBin .neq 103 t34 t39 103) fun t40 =>
 condP t40 (K (Value.bool false) w)
  (o pr E w (sBinC .add 3 (e1 5) (Value.int IntKind.i64 1) 3) fun t29 w =>
 I1 [t29] w ∧ m1 [t29] w < m1 [e1 5] w1)) (dr w))
  (∃ (I2 : List Value → World → Prop) (m2 : List Value → World → Nat), I2 [(Value.int IntKind.i64 0)] w ∧
 ∀ (e2 : Nat → Value) w2, I2 [e2 6] w2 → (fun w =>
 o pr E w (sFA 49 t2 1) fun t42 w =>
 o pr E w (sLoad 22 t42) fun t43 w =>
 o pr E w (sB .len [22] 3 [t43]) fun t44 w =>
 o pr E w (sBin .lss 3 (e2 6) t44 3) fun t45 w =>
 condP t45 ((fun w =>
 oz pr (sFA 49 t2 1) fun t48 =>
 oa pr w (sLoad 22 t48) fun t49 =>
 oz pr (sIA 22 t49 (e2 6)) fun t51 =>
 oa pr w (sLoad 3 t51) fun t52 =>
 oz pr (sFA 49 t3 1) fun t53 =>
 oa pr w (sLoad 22 t53) fun t54 =>
 oz pr (sIA 22 t54 (e2 6)) fun t56 =>
 oa pr w (sLoad 3 t56) fun t57 =>
 oz pr (sBin .neq 3 t52 t57 3) fun t58 =>
 condP t58 (K (Value.bool false) w)
  (o pr E w (sBinC .add 3 (e2 6) (Value.int IntKind.i64 1) 3) fun t47 w =>
 I2 [t47] w ∧ m2 [t47] w < m2 [e2 6] w2)) (dr w))
  (K (Value.bool true) w)) w2)) w1))
def lv_law_sameReports : Lives := [(1, [2, 3]), (2, [2, 3, 22]), (3, [2, 3]), (4, [2, 3, 5]), (5, [2, 3, 5]), (6, [2, 3, 5]), (7, [2, 3, 5, 40]), (8, [2, 3]), (9, [2, 3, 6]), (10, [2, 3, 6]), (11, [2, 3, 6]), (12, [2, 3, 6, 58]), (13, [])]
theorem sh_law_sameReports_ok (a0 a1 : Value) (w : World) (R : Ending → World → Prop)
 (h : sh_law_sameReports (fun v w => R (.returned v) w) (fun c w => R (.panicked c) w) a0 a1 w) : Calls pr n_law_sameReports #[a0, a1] w R :=
 calls_of_W (A := lv_law_sameReports) enters mixed Go.Proofs.Tryz.func23 (by kernel_rfl) (by kernel_rfl) (by kernel_rfl)
  (Eq.mp (by kernel_rfl) h)
def sh_law_Straight (K : Value → World → Prop) (E : PanicK) (a0 a1 a2 a3 a4 : Value) (w : World) : Prop :=
 cl pr E w n_law_knows #[(Value.int IntKind.i64 0)] fun t32 w =>
 (fun (k2 : Value → World → Prop) =>
 o pr E w (sUn .not 4 t32) fun t34 w =>
 condG t34 false (o pr E w (sB .len [9] 3 [a0]) fun t37 w =>
 o pr E w (sBinC .gtr 3 t37 (Value.int IntKind.i64 1048576) 3) fun t38 w =>
 o pr E w (sPick t34 (Value.bool true) t38) fun t39_1 w =>
 k2 t39_1 w)
  (o pr E w (sPick t34 (Value.bool true) undef) fun t39_2 w =>
 k2 t39_2 w))
 (fun t39 w =>
 condP t39 (K t32 w)
  (cl pr E w n_law_config #[(Value.int IntKind.i64 0), a1, a2, a3, a4] fun t45 w =>
 o pr E w (sAlloc 45) fun t12 w =>
 o pr E w (sStore 45 t12 t45) fun _ w =>
 o pr E w (sLoad 45 t12) fun t48 w =>
 cl pr E w n_inv_Analyze #[a0, t48] fun t49 w =>
 o pr E w (sExt t49 0) fun t50 w =>
 o pr E w (sExt t49 1) fun t51 w =>
 o pr E w (sAlloc 49) fun t13 w =>
 o pr E w (sStore 49 t13 t50) fun _ w =>
 cl pr E w n_api_Tell #[t51] fun t54 w =>
 o pr E w (sExt t54 0) fun t55 w =>
 o pr E w (sExt t54 1) fun _ w =>
 ∃ j1 : List Value → World → Prop, (∀ (e1 : Nat → Value) w, j1 [] w →
 cl pr E w n_inv_Print #[a0] fun t86 w =>
 o pr E w (sExt t86 0) fun t87 w =>
 o pr E w (sExt t86 1) fun t88 w =>
 cl pr E w n_api_Tell #[t88] fun t91 w =>
 o pr E w (sExt t91 0) fun t92 w =>
 o pr E w (sExt t91 1) fun _ w =>
 (fun (k16 : Value → World → Prop) =>
 cl pr E w n_law_num #[t92] fun t95 w =>
 o pr E w (sBinC .neq 3 t95 (Value.int IntKind.i64 0) 3) fun t96 w =>
 condG t96 false (o pr E w (sB .len [9] 3 [t87]) fun t99 w =>
 o pr E w (sBinC .gtr 3 t99 (Value.int IntKind.i64 400) 3) fun t100 w =>
 o pr E w (sPick t96 (Value.bool true) t100) fun t101_1 w =>
 k16 t101_1 w)
  (o pr E w (sPick t96 (Value.bool true) undef) fun t101_2 w =>
 k16 t101_2 w))
 (fun t101 w =>
 condP t101 (K (Value.bool true) w)
  (o pr E w (sLoad 45 t12) fun t104 w =>
 cl pr E w n_inv_Analyze #[t87, t104] fun t105 w =>
 o pr E w (sExt t105 0) fun t106 w =>
 o pr E w (sExt t105 1) fun t107 w =>
 o pr E w (sAlloc 49) fun t27 w =>
 o pr E w (sStore 49 t27 t106) fun _ w =>
 cl pr E w n_api_Tell #[t107] fun t110 w =>
 o pr E w (sExt t110 0) fun t111 w =>
 o pr E w (sExt t110 1) fun _ w =>
 o pr E w (sLoad 49 t13) fun t113 w =>
 o pr E w (sLoad 49 t27) fun t114 w =>
 cl pr E w n_law_sameReports #[t113, t114] fun t115 w =>
 (fun (k21 : Value → World → Prop) =>
 condG t115 true (cl pr E w n_law_num #[t55] fun t119 w =>
 o pr E w (sBinC .eql 3 t119 (Value.int IntKind.i64 0) 3) fun t120 w =>
 o pr E w (sPick t115 t120 (Value.bool false)) fun t121 w =>
 condG t121 true (cl pr E w n_law_num #[t111] fun t124 w =>
 o pr E w (sBinC .eql 3 t124 (Value.int IntKind.i64 0) 3) fun t125 w =>
 o pr E w (sPick t121 t125 (Value.bool false)) fun t126 w =>
 k21 t126 w)
  (o pr E w (sPick t121 undef (Value.bool false)) fun t126_1 w =>
 k21 t126_1 w))
  (o pr E w (sPick t115 undef (Value.bool false)) fun t121_1 w =>
 condG t121_1 true (cl pr E w n_law_num #[t111] fun t124_1 w =>
 o pr E w (sBinC .eql 3 t124_1 (Value.int IntKind.i64 0) 3) fun t125_1 w =>
 o pr E w (sPick t121_1 t125_1 (Value.bool false)) fun t126_2 w =>
 k21 t126_2 w)
  (o pr E w (sPick t121_1 undef (Value.bool false)) fun t126_3 w =>
 k21 t126_3 w)))
 (fun t10 w =>
 K t10 w)))) ∧
 cl pr E w n_law_word #[a0, (Value.string (S [119, 104, 105, 108, 101]))] fun t58 w =>
 o pr E w (sUn .not 4 t58) fun t60 w =>
 condP t60 (o pr E w (sBuild 45 []) fun t63 w =>
 cl pr E w n_inv_Analyze #[a0, t63] fun t64 w =>
 o pr E w (sExt t64 0) fun t65 w =>
 o pr E w (sExt t64 1) fun t66 w =>
 o pr E w (sAlloc 49) fun t18 w =>
 o pr E w (sStore 49 t18 t65) fun _ w =>
 cl pr E w n_api_Tell #[t66] fun t69 w =>
 o pr E w (sExt t69 0) fun t70 w =>
 o pr E w (sExt t69 1) fun _ w =>
 o pr E w (sLoad 49 t13) fun t72 w =>
 o pr E w (sLoad 49 t18) fun t73 w =>
 cl pr E w n_law_sameReports #[t72, t73] fun t74 w =>
 (fun (k12 : Value → World → Prop) =>
 o pr E w (sUn .not 4 t74) fun t76 w =>
 condG t76 false (cl pr E w n_law_num #[t55] fun t79 w =>
 cl pr E w n_law_num #[t70] fun t81 w =>
 o pr E w (sBin .neq 3 t79 t81 3) fun t82 w =>
 o pr E w (sPick t76 (Value.bool true) t82) fun t83_1 w =>
 k12 t83_1 w)
  (o pr E w (sPick t76 (Value.bool true) undef) fun t83_2 w =>
 k12 t83_2 w))
 (fun t83 w =>
 condP t83 (K (Value.bool false) w)
  (j1 [] w)))
  (j1 [] w)))
def lv_law_Straight : Lives := [(1, [0, 1, 2, 3, 4]), (2, [0, 1, 2, 3, 4, 11]), (3, [0, 1, 2, 3, 4, 11, 39]), (4, [0, 1, 2, 3, 4]), (5, [0, 12]), (6, [0, 12, 13, 14]), (7, [0, 12, 13, 15]), (8, [0, 12, 13, 15, 17]), (9, [0, 12, 13, 15, 60]), (10, [0, 12, 13, 15, 18, 19]), (11, [0, 12, 13, 15, 18, 20]), (12, [0, 12, 13, 15, 20, 22]), (13, [0, 12, 13, 15, 83]), (14, [0, 12, 13, 15]), (15, [12, 13, 15, 23, 24]), (16, [12, 13, 15, 23, 25]), (17, [12, 13, 15, 23, 101]), (18, [12, 13, 15, 23]), (19, [13, 15, 27, 28]), (20, [13, 15, 27, 29]), (21, [15, 29, 31])]
theorem sh_law_Straight_ok (a0 a1 a2 a3 a4 : Value) (w : World) (R : Ending → World → Prop)
 (h : sh_law_Straight (fun v w => R (.returned v) w) (fun c w => R (.panicked c) w) a0 a1 a2 a3 a4 w) : Calls pr n_law_Straight #[a0, a1, a2, a3, a4] w R :=
 calls_of_W (A := lv_law_Straight) enters mixed Go.Proofs.Tryz.func4 (by kernel_rfl) (by kernel_rfl) (by kernel_rfl)
  (Eq.mp (by kernel_rfl) h)
end Go.Inv
namespace Go.Inv
open Go.Sh
theorem made_rep (z : Array Value) (hz : 0 < z.size) : ∀ n : Nat, (madeCells z (n * z.size)).toList = (List.replicate n z.toList).flatten
 | 0 => by simp [madeCells]
 | n + 1 => by
   have ih := made_rep z hz n
   have h1 : ∀ m, (madeCells z m).toList = (List.range m).map (fun j => z[j % z.size]!) := fun m => by simp [madeCells]
   rw [h1] at ih ⊢
   rw [Nat.add_mul, Nat.one_mul, List.range_add, List.map_append, ih, List.replicate_succ', List.flatten_append]
   congr 1
   simp only [List.map_map, List.flatten_cons, List.flatten_nil, List.append_nil]
   apply List.ext_getElem?
   intro j
   by_cases hj : j < z.size
   ·simp [hj, Nat.mul_add_mod_self_right, Nat.mod_eq_of_lt hj]
   ·simp [hj]
theorem made_fc (n : Nat) : madeCells (sA n0) (n * 17) = fcA spE (List.replicate n n0) := by
 apply Array.toList_inj.1
 have hs : (sA n0).size = 17 := rfl
 have := made_rep (sA n0) (by rw [hs]; omega) n
 rw [hs] at this
 rw [this]
 unfold fcA sA stA
 simp only [List.flatMap_replicate]
theorem run_sMake {t e : TypeId} {k b : Nat} {i : TypeInfo} {z : Value} {w : World} (ht : pr.underlying t = some (.slice e)) (hi : pr.info? e = some i) (hz : i.zero = some z) (hk : i.size = k) (hb : i.bytes = b) {n : Nat} (hbn : b * n ≤ 281474976710656) (h63 : n ≤ 9223372036854775807) :
 (sMake t (vi n) (vi n)).run pr w = .ok (.value (.slice (some ⟨w.heap.size, 0, none⟩) n n)) (w.alloc (.cells (madeCells z.cells (n * k)) e)) := by
 have hbz : (i.bytes : Int) * (n : Int) ≤ 281474976710656 := by
  rw [hb]
  have h : ((b * n : Nat) : Int) ≤ 281474976710656 := by omega
  rwa [Int.natCast_mul] at h
 have hr := run_make (P := pr) w t e i z ht hi hz .i64 .i64 n n (by omega) (Int.le_refl _) hbz (by omega)
 rw [hk] at hr
 simp only [Int.toNat_natCast] at hr
 simp only [sMake, opc, execOp]
 simp [ev, hr, Result.andThen]
theorem inf253 : ∃ i z, pr.info? 253 = some i ∧ i.zero = some z ∧ i.size = 17 ∧ i.bytes = 136 ∧ z.cells = sA n0 := by
 have h1 : (pr.info? 253).map (·.size) = some 17 := by kernel_rfl
 have h2 : (pr.info? 253).map (·.bytes) = some 136 := by kernel_rfl
 have h3 : ((pr.info? 253).bind (·.zero)).map (·.cells) = some (sA n0) := by kernel_rfl
 cases hi : pr.info? 253 with
 | none => rw [hi] at h1; cases h1
 | some i =>
   rw [hi] at h1 h2 h3
   simp only [Option.map_some, Option.some.injEq, Option.bind_some] at h1 h2 h3
   cases hz : i.zero with
   | none => rw [hz] at h3; cases h3
   | some z => rw [hz] at h3; exact ⟨i, z, rfl, hz, h1, h2, by simpa using h3⟩
theorem inf103 : ∃ i z, pr.info? 103 = some i ∧ i.zero = some z ∧ i.size = 17 ∧ i.bytes = 136 ∧ z.cells = sA n0 := by
 have h1 : (pr.info? 103).map (·.size) = some 17 := by kernel_rfl
 have h2 : (pr.info? 103).map (·.bytes) = some 136 := by kernel_rfl
 have h3 : ((pr.info? 103).bind (·.zero)).map (·.cells) = some (sA n0) := by kernel_rfl
 cases hi : pr.info? 103 with
 | none => rw [hi] at h1; cases h1
 | some i =>
   rw [hi] at h1 h2 h3
   simp only [Option.map_some, Option.some.injEq, Option.bind_some] at h1 h2 h3
   cases hz : i.zero with
   | none => rw [hz] at h3; cases h3
   | some z => rw [hz] at h3; exact ⟨i, z, rfl, hz, h1, h2, by simpa using h3⟩
theorem inf3 : ∃ i, pr.info? 3 = some i ∧ i.zero = some (vi 0) ∧ i.size = 1 ∧ i.bytes = 8 := by
 have h1 : (pr.info? 3).map (·.size) = some 1 := by kernel_rfl
 have h2 : (pr.info? 3).map (·.bytes) = some 8 := by kernel_rfl
 have h3 : ((pr.info? 3).bind (·.zero)) = some (vi 0) := by kernel_rfl
 cases hi : pr.info? 3 with
 | none => rw [hi] at h1; cases h1
 | some i =>
   rw [hi] at h1 h2 h3
   simp only [Option.map_some, Option.some.injEq, Option.bind_some] at h1 h2 h3
   exact ⟨i, rfl, h3, h1, h2⟩
theorem u248 : pr.underlying 248 = some (.slice 253) := by kernel_rfl
theorem u47 : pr.underlying 47 = some (.slice 103) := by kernel_rfl
theorem u22 : pr.underlying 22 = some (.slice 3) := by kernel_rfl
theorem mk_states {n : Nat} (hn : n ≤ 1000000000) (w : World) : (sMake 248 (vi n) (vi n)).run pr w = .ok (.value (.slice (some ⟨w.heap.size, 0, none⟩) n n)) (w.alloc (.cells (fcA spE (List.replicate n n0)) 253)) := by
 obtain ⟨i, z, h1, h2, h3, h4, h5⟩ := inf253
 have := run_sMake (w := w) u248 h1 h2 h3 h4 (n := n) (by omega) (by omega)
 rw [h5, made_fc] at this
 exact this
theorem mk_facts {n : Nat} (hn : n ≤ 1000000000) (w : World) : (sMake 47 (vi n) (vi n)).run pr w = .ok (.value (.slice (some ⟨w.heap.size, 0, none⟩) n n)) (w.alloc (.cells (fcA spE (List.replicate n n0)) 103)) := by
 obtain ⟨i, z, h1, h2, h3, h4, h5⟩ := inf103
 have := run_sMake (w := w) u47 h1 h2 h3 h4 (n := n) (by omega) (by omega)
 rw [h5, made_fc] at this
 exact this
theorem mk_ints {n : Nat} (hn : n ≤ 1000000000) (w : World) : (sMake 22 (vi n) (vi n)).run pr w = .ok (.value (.slice (some ⟨w.heap.size, 0, none⟩) n n)) (w.alloc (.cells (((List.replicate n 0).map fun m : Nat => vi m).toArray) 3)) := by
 obtain ⟨i, h1, h2, h3, h4⟩ := inf3
 have := run_sMake (w := w) u22 h1 h2 h3 h4 (n := n) (by omega) (by omega)
 have e : madeCells (vi 0).cells (n * 1) = ((List.replicate n 0).map fun m : Nat => vi m).toArray := by
  apply Array.toList_inj.1
  have := made_rep #[vi 0] (by decide) n
  rw [show (vi 0).cells = #[vi 0] from rfl]
  rw [show (#[vi 0] : Array Value).size = 1 from rfl] at this
  rw [this]
  simp
 rw [e] at this
 exact this
theorem row_fcv {fs : List (St Span)} {i v t : Nat} {f : Nat × Nat} (u : Span) (h : ∀ x ∈ fs, x.vars.length = 8) (hi : i < fs.length) (hv : v < 8) :
 Option.map (rowObj (i * 17 + 1 + v * 2) [vi u.lo, vi u.hi]) (some (.cells (fcA spE fs) t f)) = some (.cells (fcA spE (fs.set i (setSt v u (fs.getD i n0)))) t f) := by
 obtain ⟨h1, h2⟩ := fc_split spE (d := n0) h hi
 have hx := h _ (mem_getD (d := n0) hi)
 obtain ⟨g1, g2⟩ := st_split spE (d := u) hx hv
 simp only [Option.map_some, rowObj]
 congr 2
 unfold fcA
 rw [h1, g1]
 have hs := setR_mid (r := ((fs.getD i n0).vars.drop (v + 1)).flatMap spE.l ++ (fs.drop (i + 1)).flatMap (stL spE)) [vi u.lo, vi u.hi] ((fs.take i).flatMap (stL spE) ++ (Value.bool (fs.getD i n0).some :: ((fs.getD i n0).vars.take v).flatMap spE.l)) (spE.l ((fs.getD i n0).vars.getD v u)) rfl
 rw [List.length_append, h2, g2] at hs
 have ea : i * 17 + 1 + v * 2 = i * 17 + (1 + v * 2) := by omega
 rw [ea]
 have ee : (fs.take i).flatMap (stL spE) ++ ((Value.bool (fs.getD i n0).some :: ((fs.getD i n0).vars.take v).flatMap spE.l ++ (spE.l ((fs.getD i n0).vars.getD v u) ++ ((fs.getD i n0).vars.drop (v + 1)).flatMap spE.l)) ++ (fs.drop (i + 1)).flatMap (stL spE)) =
  ((fs.take i).flatMap (stL spE) ++ (Value.bool (fs.getD i n0).some :: ((fs.getD i n0).vars.take v).flatMap spE.l)) ++ (spE.l ((fs.getD i n0).vars.getD v u) ++ (((fs.getD i n0).vars.drop (v + 1)).flatMap spE.l ++ (fs.drop (i + 1)).flatMap (stL spE))) := by
  simp only [List.append_assoc, List.cons_append]
 rw [ee, hs, flat_set _ hi]
 congr 1
 have e2 : stL spE (setSt v u (fs.getD i n0)) = Value.bool (fs.getD i n0).some :: (((fs.getD i n0).vars.take v).flatMap spE.l ++ (spE.l u ++ ((fs.getD i n0).vars.drop (v + 1)).flatMap spE.l)) := by
  unfold stL setSt
  simp only
  rw [flat_set u (by omega)]
 rw [e2]
 simp only [List.append_assoc, List.cons_append]
 rfl
end Go.Inv
namespace Go.Inv
open Go.Sh
theorem idx_vars {x : St Span} (hx : x.vars.length = 8) {k : Nat} (hk : k < 8) (w : World) : (sIdx 251 (.agg (x.vars.flatMap spE.l).toArray) (vi k)).run pr w = .ok (.value (spV (x.vars.getD k ⟨0, 0⟩))) w := by
 have hp := vars_part hx hk w
 obtain ⟨i, hi⟩ := i162
 have h0 : (0 : Int) ≤ k := Int.natCast_nonneg k
 have hs : ∀ w, (sizeOf 162).run pr w = .ok 2 w := fun w => (aggT_spec (w := w) ag162).2
 simp [sIdx, opc, execOp, ev, Instr.index, asIntOf, run_underlying u251, h0, hs, hp]
 intro h; omega
theorem el47 : elemT pr 47 = some 17 := by kernel_rfl
theorem el101 : elemA pr 101 = some (8, 2) := by kernel_rfl
theorem rIA47 (b n c i : Nat) (h : i < n) : Pur pr (sIA 47 (.slice (some ⟨b, 0, none⟩) n c) (vi i)) (pt b (i * 17)) := by
 have := pur_IAs (b := b) (off := 0) (n := n) (c := c) el47 (Int.natCast_nonneg i) (by omega : (i : Int) < n)
 simpa using this
theorem rIA101 (b o v : Nat) (h : v < 8) : Pur pr (sIA 101 (pt b o) (vi v)) (pt b (o + v * 2)) := by
 have := pur_IAa (b := b) (off := o) el101 (Int.natCast_nonneg v) (by omega : (v : Int) < (8 : Nat))
 simpa using this
def rpR (fs : List (St Span)) (i : Nat) : List (St Span) := fs.take i ++ List.replicate (fs.length - i) n0
theorem rpR_len (fs : List (St Span)) {i : Nat} (hi : i ≤ fs.length) : (rpR fs i).length = fs.length := by unfold rpR; simp; omega
theorem rpR_lens {fs : List (St Span)} (h : ∀ x ∈ fs, x.vars.length = 8) (i : Nat) : ∀ x ∈ rpR fs i, x.vars.length = 8 := fun x hx => by
 unfold rpR at hx
 rcases List.mem_append.1 hx with hx | hx
 ·exact h x (List.mem_of_mem_take hx)
 ·rw [(List.mem_replicate.1 hx).2]; rfl
theorem rpR_get (fs : List (St Span)) {i : Nat} (hi : i < fs.length) : (rpR fs i).getD i n0 = n0 := by
 unfold rpR
 rw [List.getD_eq_getElem?_getD, List.getElem?_append_right (by simp; omega)]
 simp [List.getElem?_replicate]
 split <;> rfl
theorem rpR_step (fs : List (St Span)) {i : Nat} (hi : i < fs.length) : (rpR fs i).set i (fs.getD i n0) = rpR fs (i + 1) := by
 unfold rpR
 have hl : (fs.take i).length = i := by simp; omega
 obtain ⟨m, hm⟩ : ∃ m, fs.length - i = m + 1 := ⟨fs.length - i - 1, by omega⟩
 rw [hm, show fs.length - (i + 1) = m by omega, List.replicate_succ, List.set_append_right _ _ (by omega), hl, Nat.sub_self, List.set_cons_zero, List.take_add_one, List.append_assoc]
 simp [List.getD_eq_getElem?_getD, hi]
def selB (_ b : Span) : Span := b
structure RpF (C : SvC) (w : World) (a : AS Span) (br rb b6 : Nat) (rows : List (St Span)) (w' : World) : Prop where
 old : Old w w'
 sv : SvAt C w' a 0
 br : w'.heap[br]? = some (.cells #[.slice (some ⟨rb, 0, none⟩) C.P C.P, .slice (some ⟨C.sb, 0, none⟩) C.S C.S] 49 (0, 0))
 rb : w'.heap[rb]? = some (.cells (fcA spE rows) 103 (0, 0))
 b6 : w'.heap[b6]? = some (.cells #[.slice none 0 0, .slice none 0 0] 49 (0, 0))
structure RpC (C : SvC) (w : World) (br rb b6 : Nat) : Prop where
 ok : C.Ok
 ne : br ≠ rb
 n6 : b6 ≠ rb
 lo : w.heap.size ≤ rb
 lo6 : w.heap.size ≤ b6
 l1 : C.s < rb
 l2 : C.fb < rb
 l3 : C.sb < rb
theorem RpF.old' {C : SvC} {w w1 w2 : World} {a : AS Span} {br rb b6 : Nat} {rows : List (St Span)} (h : RpF C w a br rb b6 rows w1) (ho : Old w1 w2) : RpF C w a br rb b6 rows w2 :=
 ⟨h.old.trans ho, h.sv.old ho, ho.heap h.br, ho.heap h.rb, ho.heap h.b6⟩
theorem RpF.setv {C : SvC} {w w1 : World} {a : AS Span} {br rb b6 i v : Nat} {rows : List (St Span)} (hc : RpC C w br rb b6) (h : RpF C w a br rb b6 rows w1) (u : Span) (hl : ∀ x ∈ rows, x.vars.length = 8) (hi : i < rows.length) (hv : v < 8) :
 RpF C w a br rb b6 (rows.set i (setSt v u (rows.getD i n0))) (Sh.putL w1 rb (i * 17 + 1 + v * 2) [vi u.lo, vi u.hi]) :=
 ⟨h.old.putL hc.lo, h.sv.loc hc.ok hc.l1 hc.l2 hc.l3, by rw [heap_putL_ne hc.ne]; exact h.br, by rw [get_putL, if_pos rfl, h.rb]; exact row_fcv u hl hi hv, by rw [heap_putL_ne hc.n6]; exact h.b6⟩
def TlI (C : SvC) (w : World) (a : AS Span) (br rb b6 i : Nat) (rows : List (St Span)) (f : St Span) (vs : List Value) (w' : World) : Prop :=
 ∃ k : Nat, vs = [vi k] ∧ k ≤ 8 ∧ RpF C w a br rb b6 (rows.set i ⟨true, mixV selB k n0.vars f.vars⟩) w'
theorem tell_loop {C : SvC} {w w0 : World} {a : AS Span} {br rb b6 i : Nat} {rows : List (St Span)} {f : St Span} {E : PanicK} {e2 : Nat → Value} {j1 : List Value → World → Prop} (hc : RpC C w br rb b6) (he2 : e2 70 = vi i) (lf : f.vars.length = 8) (hfs : f.some = true) (hiP : i < C.P)
 (hl : ∀ x ∈ rows, x.vars.length = 8) (hi : i < rows.length) (h0 : RpF C w a br rb b6 (rows.set i ⟨true, n0.vars⟩) w0) (hj : ∀ w', RpF C w a br rb b6 (rows.set i f) w' → j1 [] w') :
 ∃ (I2 : List Value → World → Prop) (m2 : List Value → World → Nat), I2 [(Value.int IntKind.i64 0)] w0 ∧
   ∀ (e3 : Nat → Value) w2, I2 [e3 85] w2 → (ct_analysis_solve_Span_1 E e3 (.agg (f.vars.flatMap spE.l).toArray) (pt br 0) e2 (domV C.sv) I2 m2 w2 j1) w2 := by
 have l0 := n0_len
 refine ⟨TlI C w a br rb b6 i rows f, UnM 8, ⟨0, rfl, by omega, h0⟩, ?_⟩
 rintro e3 w1 ⟨k, he, hk, h1⟩
 have e85 : e3 85 = vi k := by simpa using he
 unfold ct_analysis_solve_Span_1
 rw [e85]
 simp only [↓RI, ↓RB, ↓RSs, ↓RT9, ↓RT7, ↓RT, ↓RG, RV]
 refine condJ (p := k < 8) (by simp only [decide_eq_decide]; omega) (fun h8 => ?_) (fun h8 => ?_)
 ·have jz : (w1.alloc (.cells #[vi 0, vi 0] tySpan)).heap[w1.heap.size]? = some (.cells #[vi 0, vi 0] tySpan) := heap_alloc_self _
  have ho2 := (((Old.refl w1).alloc (.cells #[vi 0, vi 0] tySpan)).putL (k := w1.heap.size) (vs := [vi (f.vars.getD k ⟨0, 0⟩).lo, vi (f.vars.getD k ⟨0, 0⟩).hi]) (i := 0) (Nat.le_refl _))
  have h2 := h1.old' ho2
  have c4 := putSp (p := vi (f.vars.getD k ⟨0, 0⟩).lo) (q := vi (f.vars.getD k ⟨0, 0⟩).hi) jz
  simp only [↓o_val (idx_vars lf h8 _), ↓RI, ↓RB, ↓RSs, ↓RT9, ↓RT7, ↓RT, ↓RG, RV, Lc, jz, List.all_cons, List.all_nil]
  generalize putL (w1.alloc (.cells #[vi 0, vi 0] tySpan)) w1.heap.size 0 [vi (f.vars.getD k ⟨0, 0⟩).lo, vi (f.vars.getD k ⟨0, 0⟩).hi] = w2 at *
  generalize w1.heap.size = b4 at *
  simp only [he2, ↓RI, ↓RB, ↓RSs, ↓RT9, ↓RT7, ↓RT, ↓RG, RV, Lc, h2.br, c4, (rIA47 _ _ _ _ hiP).oz]
  refine cl_of (itell_ok _ _ _) ?_
  rintro e w3 ⟨rfl, ho3⟩
  have h3 := h2.old' ho3.ofDr
  have hl' : ∀ x ∈ rows.set i (⟨true, mixV selB k n0.vars f.vars⟩ : St Span), x.vars.length = 8 := fun x hx => by
   rcases List.mem_or_eq_of_mem_set hx with hx | rfl
   ·exact hl x hx
   ·exact mix_len l0 lf hk
  have hi' : i < (rows.set i (⟨true, mixV selB k n0.vars f.vars⟩ : St Span)).length := by simpa using hi
  have h4 := h3.setv hc (f.vars.getD k ⟨0, 0⟩) hl' hi' h8
  have okr : okRow (some (.cells (fcA spE (rows.set i (⟨true, mixV selB k n0.vars f.vars⟩ : St Span))) 103 (0, 0))) (i * 17 + 1 + k * 2) 2 = true := by
   have := fc_size spE hl'
   simp [okRow, this]
   omega
  simp only [endK, he2, ↓RI, ↓RB, ↓RSs, ↓RT9, ↓RT7, ↓RT, ↓RG, RV, Lc, h3.br, h3.rb, okr, (rIA101 _ _ _ h8).oz, List.all_cons, List.all_nil, Is.step (show k ≤ 1000000001 by omega)]
  refine ⟨⟨k + 1, rfl, by omega, ?_⟩, by simp only [UnM, Int.toNat_natCast]; omega⟩
  have eg : (rows.set i (⟨true, mixV selB k n0.vars f.vars⟩ : St Span)).getD i n0 = ⟨true, mixV selB k n0.vars f.vars⟩ := by
   simp [List.getD_eq_getElem?_getD, hi]
  have es : setSt k (f.vars.getD k ⟨0, 0⟩) (⟨true, mixV selB k n0.vars f.vars⟩ : St Span) = ⟨true, mixV selB (k + 1) n0.vars f.vars⟩ := by
   unfold setSt; simp only
   rw [← mix_set l0 lf h8 ⟨0, 0⟩]; rfl
  rw [eg, es, List.set_set] at h4
  exact h4
 ·have : k = 8 := by omega
  subst this
  refine hj _ ?_
  have e8 : (⟨true, mixV selB 8 n0.vars f.vars⟩ : St Span) = f := by
   rw [mix_8 l0 lf]
   obtain ⟨fs, fv⟩ := f
   have hfs : fs = true := hfs
   subst hfs
   congr 1
   obtain ⟨y0, y1, y2, y3, y4, y5, y6, y7, rfl⟩ := len8 lf
   rfl
  rw [e8] at h1
  exact h1
theorem RpF.some {C : SvC} {w w1 : World} {a : AS Span} {br rb b6 i : Nat} {rows : List (St Span)} (hc : RpC C w br rb b6) (h : RpF C w a br rb b6 rows w1) (hl : ∀ x ∈ rows, x.vars.length = 8) (hi : i < rows.length) :
 RpF C w a br rb b6 (rows.set i ⟨true, (rows.getD i n0).vars⟩) (put w1 rb (i * 17) (.bool true)) := by
 refine ⟨h.old.put hc.lo, h.sv.loc (vs := [.bool true]) hc.ok hc.l1 hc.l2 hc.l3, by rw [heap_put_ne hc.ne]; exact h.br, ?_, by rw [heap_put_ne hc.n6]; exact h.b6⟩
 rw [heap_put_self, h.rb]
 simp only [Option.map_some, setObj']
 congr 2
 obtain ⟨h1, h2⟩ := fc_split spE (d := n0) hl hi
 unfold fcA
 rw [h1, flat_set _ hi]
 apply Array.toList_inj.1
 have e1 : ∀ x : St Span, stL spE x = .bool x.some :: x.vars.flatMap spE.l := fun _ => rfl
 rw [e1, e1]
 simp only [List.cons_append, Array.toList_setIfInBounds]
 rw [List.set_append_right _ _ (by omega), h2, Nat.sub_self, List.set_cons_zero]
def RpI (C : SvC) (w : World) (a : AS Span) (br rb b6 : Nat) (vs : List Value) (w' : World) : Prop :=
 ∃ i : Nat, vs = [vi i] ∧ i ≤ C.P ∧ RpF C w a br rb b6 (rpR a.facts i) w'
def RpJ (C : SvC) (w : World) (a : AS Span) (br rb b6 i : Nat) (_ : List Value) (w' : World) : Prop := RpI C w a br rb b6 [vi ((i + 1 : Nat) : Int)] w'
def repV (C : SvC) (rb : Nat) : Value := .agg #[.slice (some ⟨rb, 0, none⟩) C.P C.P, .slice (some ⟨C.sb, 0, none⟩) C.S C.S]
end Go.Inv
namespace Go.Inv
open Go.Sh
theorem st_vars {x : St Span} {t : Nat} {f : Nat × Nat} (h : x.vars.length = 8) : blkRow (some (.cells (sA x) t f)) 1 16 = some (.agg (x.vars.flatMap spE.l).toArray) := by
 have := row_mid (p := [.bool x.some]) (q := x.vars.flatMap spE.l) (r := []) (t := t) (f := f) rfl (flat_len (k := 2) (fun _ _ => rfl))
 rw [h] at this
 simpa [sA, stA, stL] using this
theorem SvAt.loc' {C : SvC} (hC : C.Ok) {w : World} {a : AS Span} {q k : Nat} (h : SvAt C w a q) (h1 : k ≠ C.s) (h2 : k ≠ C.fb) (h3 : k ≠ C.sb) (hB : C.B ≤ k) {i : Nat} {vs : List Value} : SvAt C (putL w k i vs) a q :=
 ⟨by rw [heap_putL_ne h1.symm]; exact h.sol, by rw [heap_putL_ne h2.symm]; exact h.fc, by rw [heap_putL_ne h3.symm]; exact h.sc, int_putL hC hB h.st⟩
theorem report_loop {C : SvC} {w w0 : World} {a : AS Span} {br rb b6 : Nat} {E : PanicK} {K : Value → World → Prop} (hc : RpC C w br rb b6) (ha : InvA C.O C.P C.S a) (hP : C.P ≤ 1000000000) (s6 : b6 ≠ C.s ∧ b6 ≠ C.fb ∧ b6 ≠ C.sb ∧ C.B ≤ b6)
 (h0 : RpF C w a br rb b6 (rpR a.facts 0) w0)
 (hK : ∀ w', Old w w' → SvAt C w' a 0 → w'.heap[rb]? = some (.cells (fcA spE a.facts) 103 (0, 0)) → K (repV C rb) w') :
 ∃ (I2 : List Value → World → Prop) (m2 : List Value → World → Nat), I2 [(Value.int IntKind.i64 0)] w0 ∧
   ∀ (e2 : Nat → Value) w2, I2 [e2 70] w2 → (ct_analysis_solve_Span_2 E e2 (vi C.P) I2 m2 w2 (.slice (some ⟨C.fb, 0, none⟩) C.P C.P) (pt br 0) (domV C.sv) (pt b6 0) K) w2 := by
 have l0 := n0_len
 have hl := ha.lens
 have hfl := ha.fl
 refine ⟨RpI C w a br rb b6, UnM C.P, ⟨0, rfl, Nat.zero_le _, h0⟩, ?_⟩
 rintro e2 w1 ⟨i, he, hi, h1⟩
 have e70 : e2 70 = vi i := by simpa using he
 unfold ct_analysis_solve_Span_2
 rw [e70]
 simp only [↓RI, ↓RB, ↓RSs, ↓RT9, ↓RT7, ↓RT, ↓RG, RV]
 refine ⟨RpJ C w a br rb b6 i, ?_, ?_⟩
 ·rintro e3 w2 hJ
  simp only [↓RI, ↓RB, ↓RSs, ↓RT9, ↓RT7, ↓RT, ↓RG, RV, Is.step (show i ≤ 1000000001 by omega)]
  refine ⟨hJ, ?_⟩
  obtain ⟨i', hi', hle, _⟩ := hJ
  have : ((i : Int) + 1) = (i' : Int) := by simpa using hi'
  simp only [UnM, Int.toNat_natCast]; omega
 ·refine condJ (p := i < C.P) (by simp only [decide_eq_decide]; omega) (fun hlt => ?_) (fun hlt => ?_)
  ·have hif : i < a.facts.length := by omega
   have lf := hl _ (mem_getD (d := n0) hif)
   obtain ⟨ho2, c7⟩ := fresh_st w1 (a.facts.getD i n0) lf
   have h2 := h1.old' ho2
   have jz : (w1.alloc (.cells (sA n0) 253)).heap[w1.heap.size]? = some (.cells (sA n0) 253) := heap_alloc_self _
   have hstep := rpR_step a.facts hif
   have hget := rpR_get a.facts hif
   have hrl : ∀ x ∈ rpR a.facts i, x.vars.length = 8 := rpR_lens hl i
   have hrn : i < (rpR a.facts i).length := by rw [rpR_len _ (by omega)]; omega
   have hinv := ha.fi i
   simp only [(rIAf _ _ _ _ hlt).o, ↓RI, ↓RB, ↓RSs, ↓RT9, ↓RT7, ↓RT, ↓RG, RV, Lc, h1.sv.fc, fc_get spE n0 hl hif, jz, stR lf, stR l0, Bool.and_self]
   have lt7 := lt_of_heap h1.rb
   have hne7 : w1.heap.size ≠ rb := by omega
   generalize putL (w1.alloc (.cells (sA n0) 253)) w1.heap.size 0 (sA (a.facts.getD i n0)).toList = w2 at *
   generalize w1.heap.size = b7 at *
   simp only [↓RI, ↓RB, ↓RSs, ↓RT9, ↓RT7, ↓RT, ↓RG, RV, Lc, Lw, c7]
   cases hsm : (a.facts.getD i n0).some with
   | false =>
     simp only [↓RI, ↓RB, ↓RSs, ↓RT9, ↓RT7, ↓RT, ↓RG, RV, Bool.not_false]
     have hn : a.facts.getD i n0 = n0 := hinv.no hsm
     rw [hn] at hstep
     have e : (rpR a.facts i).set i n0 = rpR a.facts i := by
      apply List.ext_getElem?
      intro j
      rw [List.getElem?_set]
      split
      ·rename_i hj; subst hj
       have := hget
       rw [List.getD_eq_getElem?_getD, List.getElem?_eq_getElem hrn] at this
       simp only [Option.getD_some] at this
       rw [List.getElem?_eq_getElem hrn, this]
      ·rfl
     rw [e] at hstep
     refine ⟨i + 1, rfl, by omega, ?_⟩
     rw [← hstep]; exact h2
   | true =>
     have h3 := h2.some hc hrl hrn
     rw [hget] at h3
     have c7' : (put w2 rb (i * 17) (.bool true)).heap[b7]? = some (.cells (sA (a.facts.getD i n0)) tyState (0, 0)) := by rw [heap_put_ne hne7]; exact c7
     have okc : decide (i * 17 < (rpR a.facts i).length * 17) = true := decide_eq_true (by omega)
     simp only [↓RI, ↓RB, ↓RSs, ↓RT9, ↓RT7, ↓RT, ↓RG, RV, Bool.not_true, h2.br, h2.rb, (rIA47 _ _ _ _ hlt).o, fc_size spE hrl, okc, isOne, Bool.and_self]
     generalize put w2 rb (i * 17) (.bool true) = w3 at *
     simp only [↓RI, ↓RB, ↓RSs, ↓RT9, ↓RT7, ↓RT, ↓RG, RV, c7', st_vars lf]
     exact tell_loop (hc := hc) e70 lf hsm hlt hrl hrn h3 fun w' hR => ⟨i + 1, rfl, by omega, by rw [← hstep]; exact hR⟩
  ·have hiP : i = C.P := by omega
   subst hiP
   have e : rpR a.facts C.P = a.facts := by unfold rpR; rw [← hfl]; simp
   rw [e] at h1
   have lrb := lt_of_heap h1.rb
   have e6 : (putL w1 b6 0 [.slice (some ⟨rb, 0, none⟩) C.P C.P, .slice (some ⟨C.sb, 0, none⟩) C.S C.S]).heap[b6]? = some (.cells #[.slice (some ⟨rb, 0, none⟩) C.P C.P, .slice (some ⟨C.sb, 0, none⟩) C.S C.S] 49 (0, 0)) := putSp h1.b6
   simp only [↓rRs ag49, ↓RI, ↓RB, ↓RSs, ↓RT9, ↓RT7, ↓RT, ↓RG, RV, Lc, h1.br, h1.b6, isOne, List.all_cons, List.all_nil, e6]
   exact hK _ (h1.old.putL hc.lo6) (h1.sv.loc' hc.ok s6.1 s6.2.1 s6.2.2.1 s6.2.2.2) (by rw [heap_putL_ne hc.n6.symm]; exact h1.rb)
end Go.Inv
namespace Go.Inv
open Go.Sh
theorem al_49 (w : World) : (sAlloc 49).run pr w = .ok (.value (pt w.heap.size 0)) (w.alloc (.cells #[.slice none 0 0, .slice none 0 0] 49)) := by kernel_rfl
theorem bd_49 (a b : Option Addr) (m n c d : Nat) (w : World) : (sBuild 49 [(0, .slice a m c), (1, .slice b n d)]).run pr w = .ok (.value (.agg #[.slice a m c, .slice b n d])) w := by kernel_rfl
theorem bd_first (w : World) : (sBuild 253 [(0, .bool true)]).run pr w = .ok (.value (.agg (sA ⟨true, n0.vars⟩))) w := by kernel_rfl
theorem bd_solver (sv : Value) (a b c d : Int) (t : Bool) (x y : Option Addr) (m n k l : Nat) (w : World) : (sBuild 250 [(0, domV sv), (1, .agg #[vi a, vi b, vi c, vi d, .bool t]), (2, .slice x m k), (3, .slice y n l)]).run pr w =
 .ok (.value (.agg #[domV sv, vi a, vi b, vi c, vi d, .bool t, .slice x m k, .slice y n l, vi 0])) w := by kernel_rfl
theorem rAl49 : ∀ E w K, o pr E w (sAlloc 49) K = K (pt w.heap.size 0) (w.alloc (.cells #[.slice none 0 0, .slice none 0 0] 49)) := fun _ w _ => o_val (al_49 w)
theorem rBd49 : ∀ k a b m n c d, oz pr (sBuild 49 [(0, .slice a m c), (1, .slice b n d)]) k = k (.agg #[.slice a m c, .slice b n d]) := fun _ a b m n c d => oz_val (bd_49 a b m n c d)
theorem rBdFst : ∀ E w K, o pr E w (sBuild 253 [(0, .bool true)]) K = K (.agg (sA ⟨true, n0.vars⟩)) w := fun _ w _ => o_val (bd_first w)
theorem rBdSol : ∀ k sv a b c d t x y m n i l, oz pr (sBuild 250 [(0, domV sv), (1, .agg #[vi a, vi b, vi c, vi d, .bool t]), (2, .slice x m i), (3, .slice y n l)]) k = k (.agg #[domV sv, vi a, vi b, vi c, vi d, .bool t, .slice x m i, .slice y n l, vi 0]) :=
 fun _ sv a b c d t x y m n i l => oz_val (bd_solver sv a b c d t x y m n i l)
def RV9 := And.intro rAl49 <| And.intro rBd49 <| And.intro rBdFst <| And.intro rBdSol (rRs ag49)
theorem row5all (a b c d e : Value) (t : Nat) (f : Nat × Nat) : blkRow (some (.cells #[a, b, c, d, e] t f)) 0 5 = some (.agg #[a, b, c, d, e]) := rfl
def SoP (w : World) (P S : Nat) (a : AS Span) : Ending → World → Prop := fun e w' => ∃ rb sb, e = .returned (.agg #[.slice (some ⟨rb, 0, none⟩) P P, .slice (some ⟨sb, 0, none⟩) S S]) ∧ Old w w' ∧
 w'.heap[rb]? = some (.cells (fcA spE a.facts) 103 (0, 0)) ∧ w'.heap[sb]? = some (.cells (a.sites.map fun n : Nat => vi n).toArray 3 (0, 0))
theorem arms5 {A : Prop} (F : Nat → Nat → Nat → Nat → World → Prop) (G : Nat → Nat → Nat → Nat → World → Prop) (h : (∀ a b c d w, F a b c d w → G a b c d w) → A) (t : ∀ a b c d w, F a b c d w → G a b c d w) : A := h t
structure SoF (w : World) (P S : Nat) (d : Int) (thr : Bool) (cfg : Cfg) (sv : Value) (steps : List Int) (s fb sb b8 : Nat) (w' : World) : Prop where
 old : Old w w'
 ls : w.heap.size + 1 < s
 lf : w.heap.size + 1 < fb
 lb : w.heap.size + 1 < sb
 l8 : s < b8 ∧ fb < b8 ∧ sb < b8
 nf : s ≠ fb
 nb : s ≠ sb
 fb' : fb ≠ sb
 b6 : w'.heap[w.heap.size + 1]? = some (.cells #[.slice none 0 0, .slice none 0 0] 49 (0, 0))
 sol : w'.heap[s]? = some (.cells #[domV sv, vi d, vi cfg.delay, vi cfg.narrow, vi cfg.unroll, .bool thr, .slice (some ⟨fb, 0, none⟩) P P, .slice (some ⟨sb, 0, none⟩) S S, vi 0] tySolver (0, 0))
 fc : w'.heap[fb]? = some (.cells (fcA spE (List.replicate P n0)) tyState (0, 0))
 sc : w'.heap[sb]? = some (.cells (((List.replicate S 0).map fun n : Nat => vi n).toArray) 3 (0, 0))
 st : w'.heap[b8]? = some (.cells (sA ⟨true, n0.vars⟩) tyState (0, 0))
theorem SoF.mk' {w wB : World} {P S : Nat} {d : Int} {thr : Bool} {cfg : Cfg} {sv : Value} {steps : List Int} {fb sb : Nat} (ho : Old w wB) (lf : w.heap.size + 1 < fb) (lb : w.heap.size + 1 < sb) (hfb : fb < wB.heap.size) (hsb : sb < wB.heap.size) (hne : fb ≠ sb)
 (b6 : wB.heap[w.heap.size + 1]? = some (.cells #[.slice none 0 0, .slice none 0 0] 49 (0, 0))) (fc : wB.heap[fb]? = some (.cells (fcA spE (List.replicate P n0)) tyState (0, 0))) (sc : wB.heap[sb]? = some (.cells (((List.replicate S 0).map fun n : Nat => vi n).toArray) 3 (0, 0))) :
 SoF w P S d thr cfg sv steps wB.heap.size fb sb (wB.heap.size + 1) (putL ((wB.alloc (.cells #[domV sv, vi d, vi cfg.delay, vi cfg.narrow, vi cfg.unroll, .bool thr, .slice (some ⟨fb, 0, none⟩) P P, .slice (some ⟨sb, 0, none⟩) S S, vi 0] tySolver)).alloc (.cells (sA n0) 253)) (wB.heap.size + 1) 0 (sA ⟨true, n0.vars⟩).toList) := by
 have hs := ho.size
 have l1 : (⟨true, n0.vars⟩ : St Span).vars.length = 8 := rfl
 refine ⟨?_, by omega, lf, lb, by omega, by omega, by omega, hne, ?_, ?_, ?_, ?_, ?_⟩
 ·(repeat (first | with_reducible assumption | with_reducible refine Old.putL (by (first | omega | (simp only [size_alloc, size_putL]; done) | (simp only [size_alloc, size_putL]; omega))) ?_ | with_reducible refine Old.alloc ?_ _))
 ·(repeat (first | with_reducible assumption | with_reducible exact heap_alloc_at (by (first | omega | (simp only [size_alloc, size_putL]; done) | (simp only [size_alloc, size_putL]; omega))) | with_reducible refine (heap_alloc_ne (by (first | omega | (simp only [size_alloc, size_putL]; done) | (simp only [size_alloc, size_putL]; omega)))).trans ?_ | with_reducible refine (heap_putL_ne (by (first | omega | (simp only [size_alloc, size_putL]; done) | (simp only [size_alloc, size_putL]; omega))) _ _ _).trans ?_ | with_reducible apply putSp))
 ·(repeat (first | with_reducible assumption | with_reducible exact heap_alloc_at (by (first | omega | (simp only [size_alloc, size_putL]; done) | (simp only [size_alloc, size_putL]; omega))) | with_reducible refine (heap_alloc_ne (by (first | omega | (simp only [size_alloc, size_putL]; done) | (simp only [size_alloc, size_putL]; omega)))).trans ?_ | with_reducible refine (heap_putL_ne (by (first | omega | (simp only [size_alloc, size_putL]; done) | (simp only [size_alloc, size_putL]; omega))) _ _ _).trans ?_ | with_reducible apply putSp))
 ·(repeat (first | with_reducible assumption | with_reducible exact heap_alloc_at (by (first | omega | (simp only [size_alloc, size_putL]; done) | (simp only [size_alloc, size_putL]; omega))) | with_reducible refine (heap_alloc_ne (by (first | omega | (simp only [size_alloc, size_putL]; done) | (simp only [size_alloc, size_putL]; omega)))).trans ?_ | with_reducible refine (heap_putL_ne (by (first | omega | (simp only [size_alloc, size_putL]; done) | (simp only [size_alloc, size_putL]; omega))) _ _ _).trans ?_ | with_reducible apply putSp))
 ·(repeat (first | with_reducible assumption | with_reducible exact heap_alloc_at (by (first | omega | (simp only [size_alloc, size_putL]; done) | (simp only [size_alloc, size_putL]; omega))) | with_reducible refine (heap_alloc_ne (by (first | omega | (simp only [size_alloc, size_putL]; done) | (simp only [size_alloc, size_putL]; omega)))).trans ?_ | with_reducible refine (heap_putL_ne (by (first | omega | (simp only [size_alloc, size_putL]; done) | (simp only [size_alloc, size_putL]; omega))) _ _ _).trans ?_ | with_reducible apply putSp))
 ·(repeat (first | (first | with_reducible assumption | with_reducible exact heap_alloc_at (by (first | omega | (simp only [size_alloc, size_putL]; done) | (simp only [size_alloc, size_putL]; omega))) | with_reducible refine (heap_alloc_ne (by (first | omega | (simp only [size_alloc, size_putL]; done) | (simp only [size_alloc, size_putL]; omega)))).trans ?_ | with_reducible refine (heap_putL_ne (by (first | omega | (simp only [size_alloc, size_putL]; done) | (simp only [size_alloc, size_putL]; omega))) _ _ _).trans ?_ | with_reducible apply putSp) | with_reducible refine putSn (by assumption) ?_))
theorem rpf_mk' {C : SvC} (hC : C.Ok) {w wB : World} {a : AS Span} {br rb : Nat} (ho : Old w wB) (hs : SvAt C wB a 0) (hfl : a.facts.length = C.P) (h1 : C.s < br ∧ C.fb < br ∧ C.sb < br) (h2 : C.s < rb ∧ C.fb < rb ∧ C.sb < rb) (hbr : w.heap.size + 1 < br) (hrb : w.heap.size + 1 < rb) (hne : br ≠ rb)
 (b6 : wB.heap[w.heap.size + 1]? = some (.cells #[.slice none 0 0, .slice none 0 0] 49 (0, 0))) (cb : wB.heap[br]? = some (.cells #[.slice none 0 0, .slice none 0 0] 49 (0, 0))) (cr : wB.heap[rb]? = some (.cells (fcA spE (List.replicate C.P n0)) 103 (0, 0))) :
 RpF C w a br rb (w.heap.size + 1) (rpR a.facts 0) (putL wB br 0 [.slice (some ⟨rb, 0, none⟩) C.P C.P, .slice (some ⟨C.sb, 0, none⟩) C.S C.S]) ∧ RpC C w br rb (w.heap.size + 1) := by
 have e : rpR a.facts 0 = List.replicate C.P n0 := by unfold rpR; simp [hfl]
 refine ⟨⟨ho.putL (by omega), hs.loc hC h1.1 h1.2.1 h1.2.2, putSp cb, by rw [heap_putL_ne hne.symm, e]; exact cr, by rw [heap_putL_ne (by omega)]; exact b6⟩, ⟨hC, hne, by omega, by omega, by omega, h2.1, h2.2.1, h2.2.2⟩⟩
theorem FrS.toOld {C : SvC} {w w1 w2 : World} (ho : Old w w1) (hf : FrS C w1 w2) (h1 : w.heap.size ≤ C.s) (h2 : w.heap.size ≤ C.fb) (h3 : w.heap.size ≤ C.sb) : Old w w2 :=
 ⟨Nat.le_trans ho.size hf.size, fun c hc => by have := ho.size; rw [hf.old c (by omega) (by omega) (by omega) (by omega)]; exact ho.old c hc, ho.out.trans hf.out⟩
theorem set_zero {k : Nat} (hk : k < 8) : setSt k (⟨0, 0⟩ : Span) (⟨true, n0.vars⟩ : St Span) = ⟨true, n0.vars⟩ := by
 match k, hk with
 | 0, _ => rfl
 | 1, _ => rfl
 | 2, _ => rfl
 | 3, _ => rfl
 | 4, _ => rfl
 | 5, _ => rfl
 | 6, _ => rfl
 | 7, _ => rfl
structure FsF (C : SvC) (w : World) (a : AS Span) (b8 : Nat) (x : St Span) (w' : World) : Prop where
 old : Old w w'
 sv : SvAt C w' a 0
 b6 : w'.heap[w.heap.size + 1]? = some (.cells #[.slice none 0 0, .slice none 0 0] 49 (0, 0))
 b8 : w'.heap[b8]? = some (.cells (sA x) tyState (0, 0))
def FsI (C : SvC) (w : World) (a : AS Span) (b8 : Nat) (x : St Span) (vs : List Value) (w' : World) : Prop := ∃ k : Nat, vs = [vi k] ∧ k ≤ 8 ∧ FsF C w a b8 x w'
theorem solve_walk {w : World} {pb gas : Nat} {p : Prog} {bv nv : Value} {xs : List Value} {d : Int} {thr : Bool} {cfg : Cfg} {sv : Value} {steps : List Int} {a : AS Span} (hg : ProgG p) (hP : p.points ≤ 1000000000) (hS : p.sites ≤ 1000000000) (hsz : szLs p.body ≤ 1000000000) (hgas : gas ≤ 1000000000)
 (hcf : cfg.unroll ≤ 1000 ∧ cfg.narrow ≤ 1000 ∧ cfg.delay ≤ 1000) (hn : w.heap[pb]? = some (.cells #[bv, vi p.points, vi p.sites, nv] tyProg (0, 0))) (hrow : RowP (Bel w.heap.size) w bv xs) (hsts : StsP (Bel w.heap.size) w xs p.body)
 (hst : IntsAt w sv steps) (hlen : steps.length ≤ 1000000) (hone : isOne sv = true) (hown : ∀ k, sv.ownBlock = some k → k < w.heap.size) (hr : solveA (spans steps) cfg gas p = some a) :
 Calls pr n_analysis_solve_Span #[pt pb 0, .agg #[vi d, vi cfg.delay, vi cfg.narrow, vi cfg.unroll, .bool thr], domV sv] w (SoP w p.points p.sites a) := by
 refine sh_analysis_solve_Span_ok _ _ _ _ _ ?_
 unfold sh_analysis_solve_Span
 have l0 := n0_len
 have ltp := lt_of_heap hn
 have ho : Old w ((w.alloc (.cells #[vi d, vi cfg.delay, vi cfg.narrow, vi cfg.unroll, .bool thr] 45)).alloc (.cells #[.slice none 0 0, .slice none 0 0] 49)) := by
  have := Old.refl w
  (repeat (first | with_reducible assumption | with_reducible refine Old.putL (by (first | omega | (simp only [size_alloc, size_putL]; done) | (simp only [size_alloc, size_putL]; omega))) ?_ | with_reducible refine Old.alloc ?_ _))
 have b4 : ((w.alloc (.cells #[vi d, vi cfg.delay, vi cfg.narrow, vi cfg.unroll, .bool thr] 45)).alloc (.cells #[.slice none 0 0, .slice none 0 0] 49)).heap[w.heap.size]? = some (.cells #[vi d, vi cfg.delay, vi cfg.narrow, vi cfg.unroll, .bool thr] 45 (0, 0)) := by (repeat (first | with_reducible assumption | with_reducible exact heap_alloc_at (by (first | omega | (simp only [size_alloc, size_putL]; done) | (simp only [size_alloc, size_putL]; omega))) | with_reducible refine (heap_alloc_ne (by (first | omega | (simp only [size_alloc, size_putL]; done) | (simp only [size_alloc, size_putL]; omega)))).trans ?_ | with_reducible refine (heap_putL_ne (by (first | omega | (simp only [size_alloc, size_putL]; done) | (simp only [size_alloc, size_putL]; omega))) _ _ _).trans ?_ | with_reducible apply putSp))
 have b6 : ((w.alloc (.cells #[vi d, vi cfg.delay, vi cfg.narrow, vi cfg.unroll, .bool thr] 45)).alloc (.cells #[.slice none 0 0, .slice none 0 0] 49)).heap[w.heap.size + 1]? = some (.cells #[.slice none 0 0, .slice none 0 0] 49 (0, 0)) := by (repeat (first | with_reducible assumption | with_reducible exact heap_alloc_at (by (first | omega | (simp only [size_alloc, size_putL]; done) | (simp only [size_alloc, size_putL]; omega))) | with_reducible refine (heap_alloc_ne (by (first | omega | (simp only [size_alloc, size_putL]; done) | (simp only [size_alloc, size_putL]; omega)))).trans ?_ | with_reducible refine (heap_putL_ne (by (first | omega | (simp only [size_alloc, size_putL]; done) | (simp only [size_alloc, size_putL]; omega))) _ _ _).trans ?_ | with_reducible apply putSp))
 have hz : ((w.alloc (.cells #[vi d, vi cfg.delay, vi cfg.narrow, vi cfg.unroll, .bool thr] 45)).alloc (.cells #[.slice none 0 0, .slice none 0 0] 49)).heap.size = w.heap.size + 2 := by rw [size_alloc, size_alloc]
 simp only [↓RV9, ↓RI, ↓RB, ↓RSs, ↓RT9, ↓RT7, ↓RT, ↓RG, RV, agg_cells, size_alloc]
 generalize ((w.alloc (.cells #[vi d, vi cfg.delay, vi cfg.narrow, vi cfg.unroll, .bool thr] 45)).alloc (.cells #[.slice none 0 0, .slice none 0 0] 49)) = w1 at *
 have n1 := ho.heap hn
 simp only [↓RV9, ↓RI, ↓RB, ↓RSs, ↓RT9, ↓RT7, ↓RT, ↓RG, RV, b4, row5all, n1, ↓o_val (mk_states hP _), ↓o_val (mk_ints hS _)]
 apply arms5 (SoF w p.points p.sites d thr cfg sv steps)
 ·intro tail
  refine ⟨?_, ?_⟩
  ·have hoA := (Old.refl (Sh.dr w1)).alloc (.cells (fcA spE (List.replicate p.points n0)) 253)
   have nA := hoA.heap (show (Sh.dr w1).heap[pb]? = _ from n1)
   have cA := hoA.heap (show (Sh.dr w1).heap[w.heap.size]? = _ from b4)
   have dA := hoA.heap (show (Sh.dr w1).heap[w.heap.size + 1]? = _ from b6)
   have fA : ((Sh.dr w1).alloc (.cells (fcA spE (List.replicate p.points n0)) 253)).heap[w1.heap.size]? = some (.cells (fcA spE (List.replicate p.points n0)) 253) := heap_alloc_self (w := Sh.dr w1) _
   have hzA : ((Sh.dr w1).alloc (.cells (fcA spE (List.replicate p.points n0)) 253)).heap.size = w1.heap.size + 1 := size_alloc _
   have hoA' := ho.trans hoA.ofDr
   generalize (Sh.dr w1).alloc (.cells (fcA spE (List.replicate p.points n0)) 253) = wA at *
   have hoB := (Old.refl wA).alloc (.cells (((List.replicate p.sites 0).map fun m : Nat => vi m).toArray) 3)
   have nB := hoB.heap nA
   have cB := hoB.heap cA
   have dB := hoB.heap dA
   have fB := hoB.heap fA
   have sB : (wA.alloc (.cells (((List.replicate p.sites 0).map fun m : Nat => vi m).toArray) 3)).heap[wA.heap.size]? = some (.cells (((List.replicate p.sites 0).map fun m : Nat => vi m).toArray) 3) := heap_alloc_self _
   have hzB : (wA.alloc (.cells (((List.replicate p.sites 0).map fun m : Nat => vi m).toArray) 3)).heap.size = wA.heap.size + 1 := size_alloc _
   have hoB' := hoA'.trans hoB
   generalize wA.alloc (.cells (((List.replicate p.sites 0).map fun m : Nat => vi m).toArray) 3) = wB at *
   have hF := SoF.mk' (P := p.points) (S := p.sites) (d := d) (thr := thr) (cfg := cfg) (sv := sv) (steps := steps) hoB' (by omega) (by omega) (lt_of_heap fB) (lt_of_heap sB) (by omega) dB fB sB
   have e8 : ((wB.alloc (.cells #[domV sv, vi d, vi cfg.delay, vi cfg.narrow, vi cfg.unroll, .bool thr, .slice (some ⟨w1.heap.size, 0, none⟩) p.points p.points, .slice (some ⟨wA.heap.size, 0, none⟩) p.sites p.sites, vi 0] tySolver)).alloc (.cells (sA n0) 253)).heap[wB.heap.size + 1]? = some (.cells (sA n0) 253) := by (repeat (first | with_reducible assumption | with_reducible exact heap_alloc_at (by (first | omega | (simp only [size_alloc, size_putL]; done) | (simp only [size_alloc, size_putL]; omega))) | with_reducible refine (heap_alloc_ne (by (first | omega | (simp only [size_alloc, size_putL]; done) | (simp only [size_alloc, size_putL]; omega)))).trans ?_ | with_reducible refine (heap_putL_ne (by (first | omega | (simp only [size_alloc, size_putL]; done) | (simp only [size_alloc, size_putL]; omega))) _ _ _).trans ?_ | with_reducible apply putSp))
   have l1 : (⟨true, n0.vars⟩ : St Span).vars.length = 8 := rfl
   simp only [↓RV9, ↓RI, ↓RB, ↓RSs, ↓RT9, ↓RT7, ↓RT, ↓RG, RV, nA, nB, cA, cB, row5all, agg_cells, e8, stR l1, stR l0, Bool.and_self]
   generalize putL ((wB.alloc (.cells #[domV sv, vi d, vi cfg.delay, vi cfg.narrow, vi cfg.unroll, .bool thr, .slice (some ⟨w1.heap.size, 0, none⟩) p.points p.points, .slice (some ⟨wA.heap.size, 0, none⟩) p.sites p.sites, vi 0] tySolver)).alloc (.cells (sA n0) 253)) (wB.heap.size + 1) 0 (sA ⟨true, n0.vars⟩).toList = w5 at hF ⊢
   generalize wB.heap.size + 1 = x8 at hF ⊢
   generalize wB.heap.size = xs' at hF ⊢
   generalize wA.heap.size = xb at hF ⊢
   generalize w1.heap.size = xf at hF ⊢
   exact tail xs' xf xb x8 w5 hF
  ·have hoA := (Old.refl (Sh.dr w1)).alloc (.cells (((List.replicate p.sites 0).map fun m : Nat => vi m).toArray) 3)
   have nA := hoA.heap (show (Sh.dr w1).heap[pb]? = _ from n1)
   have cA := hoA.heap (show (Sh.dr w1).heap[w.heap.size]? = _ from b4)
   have dA := hoA.heap (show (Sh.dr w1).heap[w.heap.size + 1]? = _ from b6)
   have fA : ((Sh.dr w1).alloc (.cells (((List.replicate p.sites 0).map fun m : Nat => vi m).toArray) 3)).heap[w1.heap.size]? = some (.cells (((List.replicate p.sites 0).map fun m : Nat => vi m).toArray) 3) := heap_alloc_self (w := Sh.dr w1) _
   have hzA : ((Sh.dr w1).alloc (.cells (((List.replicate p.sites 0).map fun m : Nat => vi m).toArray) 3)).heap.size = w1.heap.size + 1 := size_alloc _
   have hoA' := ho.trans hoA.ofDr
   generalize (Sh.dr w1).alloc (.cells (((List.replicate p.sites 0).map fun m : Nat => vi m).toArray) 3) = wA at *
   have hoB := (Old.refl wA).alloc (.cells (fcA spE (List.replicate p.points n0)) 253)
   have nB := hoB.heap nA
   have cB := hoB.heap cA
   have dB := hoB.heap dA
   have fB := hoB.heap fA
   have sB : (wA.alloc (.cells (fcA spE (List.replicate p.points n0)) 253)).heap[wA.heap.size]? = some (.cells (fcA spE (List.replicate p.points n0)) 253) := heap_alloc_self _
   have hzB : (wA.alloc (.cells (fcA spE (List.replicate p.points n0)) 253)).heap.size = wA.heap.size + 1 := size_alloc _
   have hoB' := hoA'.trans hoB
   generalize wA.alloc (.cells (fcA spE (List.replicate p.points n0)) 253) = wB at *
   have hF := SoF.mk' (P := p.points) (S := p.sites) (d := d) (thr := thr) (cfg := cfg) (sv := sv) (steps := steps) hoB' (by omega) (by omega) (lt_of_heap sB) (lt_of_heap fB) (by omega) dB sB fB
   have e8 : ((wB.alloc (.cells #[domV sv, vi d, vi cfg.delay, vi cfg.narrow, vi cfg.unroll, .bool thr, .slice (some ⟨wA.heap.size, 0, none⟩) p.points p.points, .slice (some ⟨w1.heap.size, 0, none⟩) p.sites p.sites, vi 0] tySolver)).alloc (.cells (sA n0) 253)).heap[wB.heap.size + 1]? = some (.cells (sA n0) 253) := by (repeat (first | with_reducible assumption | with_reducible exact heap_alloc_at (by (first | omega | (simp only [size_alloc, size_putL]; done) | (simp only [size_alloc, size_putL]; omega))) | with_reducible refine (heap_alloc_ne (by (first | omega | (simp only [size_alloc, size_putL]; done) | (simp only [size_alloc, size_putL]; omega)))).trans ?_ | with_reducible refine (heap_putL_ne (by (first | omega | (simp only [size_alloc, size_putL]; done) | (simp only [size_alloc, size_putL]; omega))) _ _ _).trans ?_ | with_reducible apply putSp))
   have l1 : (⟨true, n0.vars⟩ : St Span).vars.length = 8 := rfl
   simp only [↓RV9, ↓RI, ↓RB, ↓RSs, ↓RT9, ↓RT7, ↓RT, ↓RG, RV, nA, nB, cA, cB, row5all, agg_cells, e8, stR l1, stR l0, Bool.and_self]
   exact tail _ _ _ _ _ hF
 ·rintro bs fb sb b8 w2 hF
  let C : SvC := ⟨w.heap.size, bs, fb, sb, p.points, p.sites, d, thr, cfg, sv, steps⟩
  have hC : C.Ok := ⟨hF.nf, hF.nb, hF.fb', (show w.heap.size ≤ bs by have := hF.ls; omega), (show w.heap.size ≤ fb by have := hF.lf; omega), (show w.heap.size ≤ sb by have := hF.lb; omega), hlen, hone, hown⟩
  have hsv : SvAt C w2 (as0 (spans steps) p) 0 := ⟨hF.sol, hF.fc, hF.sc, hst.old hF.old⟩
  have l1 : (⟨true, n0.vars⟩ : St Span).vars.length = 8 := rfl
  have hls := hF.ls
  have hlf := hF.lf
  have hlb := hF.lb
  have hl8 := hF.l8
  refine ⟨FsI C w (as0 (spans steps) p) b8 ⟨true, n0.vars⟩, UnM 8, ⟨0, rfl, by omega, ⟨hF.old, hsv, hF.b6, hF.st⟩⟩, ?_⟩
  clear hF hsv
  rintro e1 w3 ⟨k, he, hk, h3⟩
  have e31 : e1 31 = vi k := by simpa using he
  unfold ct_analysis_solve_Span_3
  rw [e31]
  simp only [↓RV9, ↓RI, ↓RB, ↓RSs, ↓RT9, ↓RT7, ↓RT, ↓RG, RV]
  refine condJ (p := k < 8) (by simp only [decide_eq_decide]; omega) (fun h8 => ?_) (fun h8 => ?_)
  ·refine cl_of (only_ok _ _ _) ?_
   rintro e w4 ⟨rfl, ho4⟩
   have c8 := ho4.heap h3.b8
   simp only [endK, ↓RV9, ↓RI, ↓RB, ↓RSs, ↓RT9, ↓RT7, ↓RT, ↓RG, RV, Lc, (rIAv _ _ h8).o, c8, varR l1 h8, List.all_cons, List.all_nil, Is.step (show k ≤ 1000000001 by omega)]
   refine ⟨⟨k + 1, rfl, by omega, ⟨(h3.old.trans ho4).putL (by omega), (h3.sv.old ho4).loc hC hl8.1 hl8.2.1 hl8.2.2, by rw [heap_putL_ne (by omega)]; exact ho4.heap h3.b6, ?_⟩⟩, by simp only [UnM, Int.toNat_natCast]; omega⟩
   have := (varR l1 h8).2.2 ⟨0, 0⟩ tyState (0, 0)
   rw [get_putL, if_pos rfl, c8, this, set_zero h8]
  ·have n3 := h3.old.heap hn
   have hbody : StmtsG C.P C.S p.body := hg.body.mono (Nat.le_refl _) (by show p.points - 1 ≤ p.points; omega)
   have ha0 : InvA C.O C.P C.S (as0 (spans steps) p) := as0_inv p
   have hf0 : InvS C.O (⟨true, n0.vars⟩ : St Span) := first_inv (D := C.D)
   unfold solveA at hr
   obtain ⟨⟨ed, a1⟩, hl⟩ : ∃ r, listA (spans steps) cfg gas true p.body (first (spans steps)) (as0 (spans steps) p) = some r := by
    cases hl : listA (spans steps) cfg gas true p.body (first (spans steps)) (as0 (spans steps) p) with
    | none => rw [hl] at hr; cases hr
    | some r => exact ⟨r, rfl⟩
   rw [hl] at hr
   simp only [Option.some.injEq] at hr
   have hPd := list_sound (O := C.O) p.body true (first (spans steps)) (as0 (spans steps) p) ed a1 hbody hf0 ha0 hl
   have lE := hPd.inv.len
   have LS : ∀ w', SvAt C w' (as0 (spans steps) p) 0 → Old w w' → Calls pr n_sv_list #[pt bs 0, bv, stVl ⟨true, n0.vars⟩] w' (SvP C w' 0 (stVl ed) a1) := fun w' hs hoo =>
    slist_all hC hgas hcf p.body 0 w' bv xs ⟨true, n0.vars⟩ (as0 (spans steps) p) ed a1 hbody (by omega) hs ha0 hf0 (hrow.frS hC hoo.frS) (hsts.keep' (fun _ hc _ => hc) (hoo.frS.keepP hC) hoo.keepS) hl
   simp only [↓RV9, ↓RI, ↓RB, ↓RSs, ↓RT9, ↓RT7, ↓RT, ↓RG, RV, Lc, n3, h3.b8, stR l1]
   apply arms1 (FsF C w a1 · ed)
   ·intro tail
    refine ⟨?_, ?_⟩
    ·refine cl_of (LS _ h3.sv.dr h3.old.dr) ?_
     rintro e w4 ⟨rfl, hf4, hs4⟩
     have hf4 := hf4.ofDr
     have ho4 := hf4.toOld h3.old (by show w.heap.size ≤ bs; omega) (by show w.heap.size ≤ fb; omega) (by show w.heap.size ≤ sb; omega)
     have d6 := hf4.heap h3.b6 (by show _ ≠ bs; omega) (by show _ ≠ fb; omega) (by show _ ≠ sb; omega)
     obtain ⟨ho5, c13⟩ := fresh_st w4 ed lE
     have jz : (w4.alloc (.cells (sA n0) 253)).heap[w4.heap.size]? = some (.cells (sA n0) 253) := heap_alloc_self _
     have hF : FsF C w a1 w4.heap.size ed (putL (w4.alloc (.cells (sA n0) 253)) w4.heap.size 0 (sA ed).toList) := ⟨ho4.trans ho5, hs4.old ho5, ho5.heap d6, c13⟩
     simp only [endK, ↓RV9, ↓RI, ↓RB, ↓RSs, ↓RT9, ↓RT7, ↓RT, ↓RG, RV, Lc, jz, stR lE, stR l0, Bool.and_self]
     generalize putL (w4.alloc (.cells (sA n0) 253)) w4.heap.size 0 (sA ed).toList = w5 at hF ⊢
     generalize w4.heap.size = b13 at hF ⊢
     exact tail b13 w5 hF
    ·have hoA := (Old.refl (Sh.dr w3)).alloc (.cells (sA n0) 253)
     have c8 := hoA.heap (show (Sh.dr w3).heap[b8]? = _ from h3.b8)
     have nA := hoA.heap (show (Sh.dr w3).heap[pb]? = _ from n3)
     have d6 := hoA.heap (show (Sh.dr w3).heap[w.heap.size + 1]? = _ from h3.b6)
     have jz : ((Sh.dr w3).alloc (.cells (sA n0) 253)).heap[w3.heap.size]? = some (.cells (sA n0) 253) := heap_alloc_self (w := Sh.dr w3) _
     have hsA := h3.sv.dr.old hoA
     have hoA' := h3.old.dr.trans hoA
     have lt3 := lt_of_heap h3.b8
     generalize (Sh.dr w3).alloc (.cells (sA n0) 253) = w4 at *
     simp only [endK, ↓RV9, ↓RI, ↓RB, ↓RSs, ↓RT9, ↓RT7, ↓RT, ↓RG, RV, Lc, nA, c8, stR l1]
     refine cl_of (LS _ hsA hoA') ?_
     rintro e w5 ⟨rfl, hf5, hs5⟩
     have ho5 := hf5.toOld hoA' (by show w.heap.size ≤ bs; omega) (by show w.heap.size ≤ fb; omega) (by show w.heap.size ≤ sb; omega)
     have kz := hf5.heap jz (by show _ ≠ bs; omega) (by show _ ≠ fb; omega) (by show _ ≠ sb; omega)
     have k6 := hf5.heap d6 (by show _ ≠ bs; omega) (by show _ ≠ fb; omega) (by show _ ≠ sb; omega)
     simp only [endK, ↓RV9, ↓RI, ↓RB, ↓RSs, ↓RT9, ↓RT7, ↓RT, ↓RG, RV, Lc, kz, stR lE, stR l0, Bool.and_self]
     refine tail _ _ ?_
     exact ⟨ho5.putL (by omega), hs5.loc hC (by show bs < _; omega) (by show fb < _; omega) (by show sb < _; omega), by rw [heap_putL_ne (by omega)]; exact k6, putSn lE kz⟩
   ·intro b13 w4 h4
    have n4 := h4.old.heap hn
    have hwm : IntKind.i64.wrap ((p.points : Int) - 1) = ((p.points - 1 : Nat) : Int) := by have := hg.pos; rw [wrap64 (by omega) (by omega)]; omega
    simp only [endK, ↓RV9, ↓RI, ↓RB, ↓RSs, ↓RT9, ↓RT7, ↓RT, ↓RG, RV, Lc, n4, hwm, h4.b8, stR lE]
    refine cl_of (come_ok' hC h4.sv.dr hPd.invA hPd.inv (by have := hg.pos; show p.points - 1 < p.points; omega)) ?_
    rintro e w5 ⟨rfl, hf5, hs5⟩
    have hf5 := hf5.ofDr
    have hE : comeA C.D (rcd 0) (p.points - 1) ed a1 = a := hr
    rw [hE] at hs5
    have haE : InvA C.O C.P C.S a := by rw [← hE]; exact come_inv hPd.inv hPd.invA
    have ho5 := hf5.toOld h4.old (by show w.heap.size ≤ bs; omega) (by show w.heap.size ≤ fb; omega) (by show w.heap.size ≤ sb; omega)
    have d6 := hf5.heap h4.b6 (by show _ ≠ bs; omega) (by show _ ≠ fb; omega) (by show _ ≠ sb; omega)
    have n5 := ho5.heap hn
    have s5 : w5.heap[bs]? = some (.cells #[domV sv, vi d, vi cfg.delay, vi cfg.narrow, vi cfg.unroll, .bool thr, .slice (some ⟨fb, 0, none⟩) p.points p.points, .slice (some ⟨sb, 0, none⟩) p.sites p.sites, vi 0] tySolver (0, 0)) := hs5.sol
    simp only [endK, ↓RV9, ↓RI, ↓RB, ↓RSs, ↓RT9, ↓RT7, ↓RT, ↓RG, RV, Lc, GE, n5, s5, ↓o_val (mk_facts hP _)]
    apply arms2 (fun br rb w' => RpF C w a br rb (w.heap.size + 1) (rpR a.facts 0) w' ∧ RpC C w br rb (w.heap.size + 1))
    ·intro tail
     have lt5 := hs5.ls
     have lt51 : bs < w5.heap.size ∧ fb < w5.heap.size ∧ sb < w5.heap.size := lt5
     have lt6 := lt_of_heap d6
     refine ⟨?_, ?_⟩
     ·have hoA := (Old.refl (Sh.dr w5)).alloc (.cells (fcA spE (List.replicate p.points n0)) 103)
      have sA := hoA.heap (show (Sh.dr w5).heap[bs]? = _ from s5)
      have nA := hoA.heap (show (Sh.dr w5).heap[pb]? = _ from n5)
      have dA := hoA.heap (show (Sh.dr w5).heap[w.heap.size + 1]? = _ from d6)
      have xA : ((Sh.dr w5).alloc (.cells (fcA spE (List.replicate p.points n0)) 103)).heap[w5.heap.size]? = some (.cells (fcA spE (List.replicate p.points n0)) 103) := heap_alloc_self (w := Sh.dr w5) _
      have hzA : ((Sh.dr w5).alloc (.cells (fcA spE (List.replicate p.points n0)) 103)).heap.size = w5.heap.size + 1 := size_alloc _
      have hsA := hs5.dr.old hoA
      have hoA' := ho5.dr.trans hoA
      generalize (Sh.dr w5).alloc (.cells (fcA spE (List.replicate p.points n0)) 103) = wA at *
      have hoB := (Old.refl wA).alloc (.cells #[.slice none 0 0, .slice none 0 0] 49)
      have sB := hoB.heap sA
      have dB := hoB.heap dA
      have xB := hoB.heap xA
      have yB : (wA.alloc (.cells #[.slice none 0 0, .slice none 0 0] 49)).heap[wA.heap.size]? = some (.cells #[.slice none 0 0, .slice none 0 0] 49) := heap_alloc_self _
      have hsB := hsA.old hoB
      have hoB' := hoA'.trans hoB
      generalize wA.alloc (.cells #[.slice none 0 0, .slice none 0 0] 49) = wB at *
      have hF := rpf_mk' hC hoB' hsB haE.fl (br := wA.heap.size) (rb := w5.heap.size) (by show bs < _ ∧ fb < _ ∧ sb < _; omega) (by show bs < _ ∧ fb < _ ∧ sb < _; omega) (by omega) (by omega) (by omega) dB yB xB
      simp only [endK, ↓RV9, ↓RI, ↓RB, ↓RSs, ↓RT9, ↓RT7, ↓RT, ↓RG, RV, Lc, GE, nA, sA, sB, yB, isOne, List.all_cons, List.all_nil]
      generalize putL wB wA.heap.size 0 [.slice (some ⟨w5.heap.size, 0, none⟩) p.points p.points, .slice (some ⟨sb, 0, none⟩) p.sites p.sites] = wC at hF ⊢
      generalize wA.heap.size = br at hF ⊢
      generalize w5.heap.size = rb at hF ⊢
      exact tail br rb wC hF
     ·have hoA := (Old.refl (Sh.dr w5)).alloc (.cells #[.slice none 0 0, .slice none 0 0] 49)
      have sA := hoA.heap (show (Sh.dr w5).heap[bs]? = _ from s5)
      have nA := hoA.heap (show (Sh.dr w5).heap[pb]? = _ from n5)
      have dA := hoA.heap (show (Sh.dr w5).heap[w.heap.size + 1]? = _ from d6)
      have xA : ((Sh.dr w5).alloc (.cells #[.slice none 0 0, .slice none 0 0] 49)).heap[w5.heap.size]? = some (.cells #[.slice none 0 0, .slice none 0 0] 49) := heap_alloc_self (w := Sh.dr w5) _
      have hzA : ((Sh.dr w5).alloc (.cells #[.slice none 0 0, .slice none 0 0] 49)).heap.size = w5.heap.size + 1 := size_alloc _
      have hsA := hs5.dr.old hoA
      have hoA' := ho5.dr.trans hoA
      generalize (Sh.dr w5).alloc (.cells #[.slice none 0 0, .slice none 0 0] 49) = wA at *
      have hoB := (Old.refl wA).alloc (.cells (fcA spE (List.replicate p.points n0)) 103)
      have sB := hoB.heap sA
      have dB := hoB.heap dA
      have xB := hoB.heap xA
      have yB : (wA.alloc (.cells (fcA spE (List.replicate p.points n0)) 103)).heap[wA.heap.size]? = some (.cells (fcA spE (List.replicate p.points n0)) 103) := heap_alloc_self _
      have hsB := hsA.old hoB
      have hoB' := hoA'.trans hoB
      generalize wA.alloc (.cells (fcA spE (List.replicate p.points n0)) 103) = wB at *
      have hF := rpf_mk' hC hoB' hsB haE.fl (br := w5.heap.size) (rb := wA.heap.size) (by show bs < _ ∧ fb < _ ∧ sb < _; omega) (by show bs < _ ∧ fb < _ ∧ sb < _; omega) (by omega) (by omega) (by omega) dB xB yB
      simp only [endK, ↓RV9, ↓RI, ↓RB, ↓RSs, ↓RT9, ↓RT7, ↓RT, ↓RG, RV, Lc, GE, nA, sA, sB, xB, isOne, List.all_cons, List.all_nil]
      exact tail _ _ _ hF
    ·rintro br rb w6 ⟨hR, hRc⟩
     have s6 : w6.heap[bs]? = some (.cells #[domV sv, vi d, vi cfg.delay, vi cfg.narrow, vi cfg.unroll, .bool thr, .slice (some ⟨fb, 0, none⟩) p.points p.points, .slice (some ⟨sb, 0, none⟩) p.sites p.sites, vi 0] tySolver (0, 0)) := hR.sv.sol
     simp only [endK, ↓RV9, ↓RI, ↓RB, ↓RSs, ↓RT9, ↓RT7, ↓RT, ↓RG, RV, Lc, GE, s6]
     refine report_loop hRc haE hP (by show _ ≠ bs ∧ _ ≠ fb ∧ _ ≠ sb ∧ w.heap.size ≤ _; omega) hR ?_
     intro w7 ho7 hs7 hrb7
     exact ⟨rb, sb, rfl, ho7, hrb7, hs7.sc⟩
end Go.Inv
namespace Go.Inv
open Go.Sh
def stepsOf (nums : List Nat) : List Int := nums.flatMap fun n : Nat => [(n : Int), IntKind.i64.wrap (0 - (n : Int))]
def cfgV (d : Int) (cfg : Cfg) (thr : Bool) : Value := .agg #[vi d, vi cfg.delay, vi cfg.narrow, vi cfg.unroll, .bool thr]
theorem bd_166 (a : Option Addr) (n c : Nat) (w : World) : (sBuild 166 [(0, .slice a n c)]).run pr w = .ok (.value (.agg #[.slice a n c])) w := by kernel_rfl
theorem rBd166 : ∀ E w K a n c, o pr E w (sBuild 166 [(0, .slice a n c)]) K = K (.agg #[.slice a n c]) w := fun _ w _ a n c => o_val (bd_166 a n c w)
theorem bs_2i (a b : Int) (w : World) : (sBuildSlice 22 2 [(0, vi a), (1, vi b)]).run pr w = .ok (.value (.slice (some ⟨w.heap.size, 0, none⟩) 2 2)) (w.alloc (.cells #[vi a, vi b] 3)) := by kernel_rfl
theorem rBs2 : ∀ E w K a b, o pr E w (sBuildSlice 22 2 [(0, vi a), (1, vi b)]) K = K (.slice (some ⟨w.heap.size, 0, none⟩) 2 2) (w.alloc (.cells #[vi a, vi b] 3)) := fun _ w _ a b => o_val (bs_2i a b w)
theorem OwnInts {w : World} {base : Nat} {v : Value} {l : List Int} (h : w.ownsRow base 3 1 v l.length (l.map vi)) : IntsAt w v l ∧ isOne v = true ∧ (∀ k, v.ownBlock = some k → base ≤ k ∧ ∃ cs, w.heap[k]? = some (.cells cs 3 (0, 0))) := by
 rcases h.2 with ⟨rfl, h2⟩ | ⟨nb, cap, c, rfl, h2, h3, h4⟩
 ·have : l = [] := List.length_eq_zero_iff.1 (by simpa using h2)
  subst this
  exact ⟨.inl ⟨rfl, _, _, rfl⟩, rfl, fun k hk => by cases hk⟩
 ·refine ⟨.inr ⟨nb, 0, cap, c, 3, (0, 0), rfl, h3, fun j x hj => ?_⟩, rfl, fun k hk => by cases hk; exact ⟨h2, _, h3⟩⟩
  obtain ⟨_, _, _, h7⟩ := h4
  rw [Nat.mul_one] at h7
  obtain ⟨hjl, _⟩ := List.getElem?_eq_some_iff.1 hj
  have hm : (l.map vi)[j]? = some (vi x) := by rw [List.getElem?_map, hj]; rfl
  rw [← h7, List.getElem?_take, if_pos hjl] at hm
  rw [Nat.zero_add, ← Array.getElem?_toList]; exact hm
structure AnF (w : World) (d : Int) (cfg : Cfg) (thr : Bool) (w' : World) : Prop where
 old : Old w w'
 b3 : w'.heap[w.heap.size]? = some (.cells #[vi d, vi cfg.delay, vi cfg.narrow, vi cfg.unroll, .bool thr] 45 (0, 0))
 b4 : w'.heap[w.heap.size + 1]? = some (.cells #[.slice none 0 0, .slice none 0 0] 49 (0, 0))
def AnJ (w : World) (d : Int) (cfg : Cfg) (thr : Bool) (steps : List Int) (vs : List Value) (w' : World) : Prop := ∃ v, vs = [v] ∧ AnF w d cfg thr w' ∧ IntsAt w' v steps ∧ isOne v = true ∧ ∀ k, v.ownBlock = some k → k < w'.heap.size
def AnI (w : World) (d : Int) (cfg : Cfg) (nums : List Nat) (vs : List Value) (w' : World) : Prop := ∃ (k : Nat) (v : Value), vs = [v, vi k] ∧ k ≤ nums.length ∧ AnF w d cfg true w' ∧ w'.ownsRow (w.heap.size + 2) 3 1 v (stepsOf (nums.take k)).length ((stepsOf (nums.take k)).map vi)
def AnM (n : Nat) (vs : List Value) (_ : World) : Nat := match vs with
 | [_, .int _ k] => n - k.toNat
 | _ => 0
theorem analyze_walk {w : World} {pb gas : Nat} {p : Prog} {bv nv : Value} {xs : List Value} {d : Int} {thr : Bool} {cfg : Cfg} {a : AS Span} (hd : d ≠ 1) (hg : ProgG p) (hP : p.points ≤ 1000000000) (hS : p.sites ≤ 1000000000) (hsz : szLs p.body ≤ 1000000000) (hgas : gas ≤ 1000000000)
 (hcf : cfg.unroll ≤ 1000 ∧ cfg.narrow ≤ 1000 ∧ cfg.delay ≤ 1000) (hn : w.heap[pb]? = some (.cells #[bv, vi p.points, vi p.sites, nv] tyProg (0, 0))) (hrow : RowP (Bel w.heap.size) w bv xs) (hsts : StsP (Bel w.heap.size) w xs p.body)
 (hnum : IntsAt w nv (p.nums.map fun n : Nat => (n : Int))) (hnl : p.nums.length ≤ 400000) (hr : solveA (spans (if thr then stepsOf p.nums else [])) cfg gas p = some a) :
 Calls pr n_analysis_Analyze #[pt pb 0, cfgV d cfg thr] w (SoP w p.points p.sites a) := by
 refine sh_analysis_Analyze_ok _ _ _ _ ?_
 unfold sh_analysis_Analyze
 have ltp := lt_of_heap hn
 have hsl : (if thr then stepsOf p.nums else []).length ≤ 1000000 := by
  split
  ·unfold stepsOf; rw [flat_len (k := 2) (fun _ _ => rfl)]; omega
  ·simp
 have h0 : AnF w d cfg thr ((w.alloc (.cells #[vi d, vi cfg.delay, vi cfg.narrow, vi cfg.unroll, .bool thr] 45)).alloc (.cells #[.slice none 0 0, .slice none 0 0] 49)) := by
  refine ⟨?_, by (repeat (first | with_reducible assumption | with_reducible exact heap_alloc_at (by (first | omega | (simp only [size_alloc, size_putL]; done) | (simp only [size_alloc, size_putL]; omega))) | with_reducible refine (heap_alloc_ne (by (first | omega | (simp only [size_alloc, size_putL]; done) | (simp only [size_alloc, size_putL]; omega)))).trans ?_ | with_reducible refine (heap_putL_ne (by (first | omega | (simp only [size_alloc, size_putL]; done) | (simp only [size_alloc, size_putL]; omega))) _ _ _).trans ?_ | with_reducible apply putSp)), by (repeat (first | with_reducible assumption | with_reducible exact heap_alloc_at (by (first | omega | (simp only [size_alloc, size_putL]; done) | (simp only [size_alloc, size_putL]; omega))) | with_reducible refine (heap_alloc_ne (by (first | omega | (simp only [size_alloc, size_putL]; done) | (simp only [size_alloc, size_putL]; omega)))).trans ?_ | with_reducible refine (heap_putL_ne (by (first | omega | (simp only [size_alloc, size_putL]; done) | (simp only [size_alloc, size_putL]; omega))) _ _ _).trans ?_ | with_reducible apply putSp))⟩
  have := Old.refl w
  (repeat (first | with_reducible assumption | with_reducible refine Old.putL (by (first | omega | (simp only [size_alloc, size_putL]; done) | (simp only [size_alloc, size_putL]; omega))) ?_ | with_reducible refine Old.alloc ?_ _))
 simp only [cfgV, ↓RV9, ↓RI, ↓RB, ↓RSs, ↓RT9, ↓RT7, ↓RT, ↓RG, RV, agg_cells, size_alloc]
 generalize ((w.alloc (.cells #[vi d, vi cfg.delay, vi cfg.narrow, vi cfg.unroll, .bool thr] 45)).alloc (.cells #[.slice none 0 0, .slice none 0 0] 49)) = w1 at *
 have ed : (d == 1) = false := by simpa using hd
 simp only [ed, ↓RV9, ↓RI, ↓RB, ↓RSs, ↓RT9, ↓RT7, ↓RT, ↓RG, RV, h0.b3]
 refine ⟨AnJ w d cfg thr (if thr then stepsOf p.nums else []), ?_, ?_⟩
 ·rintro e1 w2 ⟨v, he, hF, hi, h1v, hown⟩
  have e5 : e1 5 = v := by simpa using he
  rw [e5]
  obtain ⟨sa, sc, hve⟩ := hi.len
  rw [hve]
  simp only [↓rBd166, ↓RV9, ↓RI, ↓RB, ↓RSs, ↓RT9, ↓RT7, ↓RT, ↓RG, RV, hF.b3, row5all]
  rw [← hve]
  have hsz2 := hF.old.size
  refine cl_of (solve_walk (steps := (if thr then stepsOf p.nums else [])) hg hP hS hsz hgas hcf (hF.old.heap hn) (hrow.keep' (fun c hc _ => Nat.lt_of_lt_of_le hc hsz2) ?_) (hsts.keep' (fun c hc _ => Nat.lt_of_lt_of_le hc hsz2) ?_ hF.old.keepS) hi hsl h1v hown hr) ?_
  ·exact fun c cs t hc _ hn => hF.old.heap hn
  ·exact fun c cs t hc _ hn => hF.old.heap hn
  ·rintro e w3 ⟨rb, sb, rfl, ho3, hrb, hsb⟩
   have d4 := ho3.heap hF.b4
   have e4 := putSp (p := .slice (some ⟨rb, 0, none⟩) p.points p.points) (q := .slice (some ⟨sb, 0, none⟩) p.sites p.sites) d4
   simp only [endK, ↓RV9, ↓RI, ↓RB, ↓RSs, ↓RT9, ↓RT7, ↓RT, ↓RG, RV, Lc, d4, e4, isOne, List.all_cons, List.all_nil]
   refine ⟨rb, sb, rfl, (hF.old.trans ho3).putL (by omega), ?_, ?_⟩
   ·rw [heap_putL_ne (by rintro rfl; rw [d4] at hrb; injection hrb with hh; injection hh with _ hh; exact absurd hh (by decide))]; exact hrb
   ·rw [heap_putL_ne (by rintro rfl; rw [d4] at hsb; injection hsb with hh; injection hh with _ hh; exact absurd hh (by decide))]; exact hsb
 ·cases thr with
  | false =>
    simp only [↓RV9, ↓RI, ↓RB, ↓RSs, ↓RT9, ↓RT7, ↓RT, ↓RG, RV]
    exact ⟨_, rfl, h0, .inl ⟨rfl, _, _, rfl⟩, rfl, fun k hk => by cases hk⟩
  | true =>
    have n1 := h0.old.heap hn
    have hnum1 := hnum.old h0.old
    obtain ⟨na, nc, hnv⟩ := hnum1.len
    rw [List.length_map] at hnv
    simp only [↓RV9, ↓RI, ↓RB, ↓RSs, ↓RT9, ↓RT7, ↓RT, ↓RG, RV, n1]
    rw [hnv]
    simp only [↓RV9, ↓RI, ↓RB, ↓RSs, ↓RT9, ↓RT7, ↓RT, ↓RG, RV]
    rw [← hnv]
    refine ⟨AnI w d cfg p.nums, AnM p.nums.length, ⟨0, _, rfl, Nat.zero_le _, h0, World.ownsRow_nil w1 _ _ _⟩, ?_⟩
    rintro e2 w2 ⟨k, v, he, hk, hF, hown⟩
    obtain ⟨e5, e23⟩ : e2 5 = v ∧ e2 23 = vi k := by simpa using he
    rw [e5, e23]
    simp only [↓RV9, ↓RI, ↓RB, ↓RSs, ↓RT9, ↓RT7, ↓RT, ↓RG, RV]
    refine condJ (p := k < p.nums.length) (by simp only [decide_eq_decide]; omega) (fun hlt => ?_) (fun hlt => ?_)
    ·have hx : (p.nums.map fun n : Nat => (n : Int))[k]? = some ((p.nums[k] : Nat) : Int) := by simp [hlt]
     have hnum2 := hnum.old hF.old
     obtain ⟨bn, off, c, hvb, hcell⟩ := hnum2.cell hx
     rw [List.length_map] at hvb
     have hst := (show stepsOf (p.nums.take (k + 1)) = stepsOf (p.nums.take k) ++ [((p.nums[k] : Nat) : Int), IntKind.i64.wrap (0 - ((p.nums[k] : Nat) : Int))] by
      unfold stepsOf; rw [List.take_add_one, List.flatMap_append]; simp [hlt])
     generalize p.nums[k] = m at *
     rw [hvb]
     simp only [(pur_IAs el22 (Int.natCast_nonneg k) (by omega : (k : Int) < (p.nums.length : Nat))).o, Int.toNat_natCast, Nat.mul_one, hcell, ↓rBs2, ↓RV9, ↓RI, ↓RB, ↓RSs, ↓RT9, ↓RT7, ↓RT, ↓RG, RV]
     have hl2 : (stepsOf (p.nums.take k)).length ≤ 800000 := by
      unfold stepsOf; rw [flat_len (k := 2) (fun _ _ => rfl), List.length_take]; omega
     have hown2 : (w2.alloc (.cells #[vi (m : Int), vi (IntKind.i64.wrap (0 - (m : Int)))] 3)).ownsRow (w.heap.size + 2) 3 1 v (stepsOf (p.nums.take k)).length ((stepsOf (p.nums.take k)).map vi) := by
      refine ⟨hown.1, ?_⟩
      rcases hown.2 with h | ⟨nb, cap, c, g1, g2, g3, g4⟩
      ·exact .inl h
      ·exact .inr ⟨nb, cap, c, g1, g2, by rw [heap_alloc_ne (by have := lt_of_heap g3; omega)]; exact g3, g4⟩
     have lt4 := lt_of_heap hF.b4
     refine o_appendN (us := [vi (m : Int), vi (IntKind.i64.wrap (0 - (m : Int)))]) sl22' hown2 (heap_alloc_self _) rfl (by simp [Value.oneCell']) (by omega) (by rw [size_alloc]; omega) ?_
     intro v' w3 hr hg
     have hvt := (OwnInts hown).2.2
     have keep : ∀ (j : Nat) (y : Obj), w2.heap[j]? = some y → (∀ cs, y ≠ .cells cs 3 (0, 0)) → w3.heap[j]? = some y := fun j y hy hne => by
      have hl := lt_of_heap hy
      rw [hg.block j (by rw [size_alloc]; omega) (fun e => by obtain ⟨_, cs, h'⟩ := hvt j e.symm; rw [hy] at h'; cases h'; exact hne _ rfl), heap_alloc_ne (by omega)]
      exact hy
     have ho3 : Old w w3 := ⟨by have := hg.size; rw [size_alloc] at this; have := hF.old.size; omega, fun j hj => by
      have := hF.old.size
      rw [hg.block j (by rw [size_alloc]; omega) (fun e => by have := (hvt j e.symm).1; omega), heap_alloc_ne (by omega)]
      exact hF.old.old j hj, (hF.old.out.alloc _).grown hg⟩
     have h3b := keep _ _ hF.b3 (fun cs e => by cases e)
     have h4b := keep _ _ hF.b4 (fun cs e => by cases e)
     rw [Is.step (show k ≤ 1000000001 by omega)]
     refine ⟨⟨k + 1, v', rfl, hlt, ⟨ho3, h3b, h4b⟩, ?_⟩, by simp only [AnM, Int.toNat_natCast]; omega⟩
     rw [hst]; simpa using hr
    ·have : k = p.nums.length := by omega
     subst this
     rw [List.take_length] at hown
     obtain ⟨o1, o2, o3⟩ := OwnInts hown
     exact ⟨v, rfl, hF, o1, o2, fun j hj => by obtain ⟨_, cs, hc⟩ := o3 j hj; exact lt_of_heap hc⟩
end Go.Inv
namespace Go.Inv
open Go.Sh
def uns (n : Int) (m : Nat) : Nat := ((n % 18446744073709551616) % m).toNat
theorem al_45 (w : World) : (sAlloc 45).run pr w = .ok (.value (pt w.heap.size 0)) (w.alloc (.cells #[vi 0, vi 0, vi 0, vi 0, .bool false] 45)) := by kernel_rfl
theorem rAl45 : ∀ E w K, o pr E w (sAlloc 45) K = K (pt w.heap.size 0) (w.alloc (.cells #[vi 0, vi 0, vi 0, vi 0, .bool false] 45)) := fun _ w _ => o_val (al_45 w)
theorem bd_45 (d : Int) (t : Bool) (w : World) : (sBuild 45 [(0, vi d), (4, .bool t)]).run pr w = .ok (.value (.agg #[vi d, vi 0, vi 0, vi 0, .bool t])) w := by kernel_rfl
theorem rBd45 : ∀ E w K d t, o pr E w (sBuild 45 [(0, vi d), (4, .bool t)]) K = K (.agg #[vi d, vi 0, vi 0, vi 0, .bool t]) w := fun _ w _ d t => o_val (bd_45 d t w)
theorem wrap_u64 (a : Int) : IntKind.u64.wrap a = a % 18446744073709551616 := by
 simp [IntKind.wrap, IntKind.bits, IntKind.signed]
theorem rem_uns (a : Int) (m : Nat) (hm : 0 < m) (hm2 : m ≤ 1000) : intV .rem .u64 (IntKind.u64.wrap a) m = some (.int .u64 (uns a m : Nat)) := by
 have h0 : 0 ≤ a % 18446744073709551616 := Int.emod_nonneg _ (by decide)
 have h1 : 0 ≤ a % 18446744073709551616 % m := Int.emod_nonneg _ (by omega)
 have h2 : a % 18446744073709551616 % m < m := Int.emod_lt_of_pos _ (by omega)
 have hne : ¬ ((m : Int) = 0) := by omega
 have hw : IntKind.u64.wrap (a % 18446744073709551616 % m) = a % 18446744073709551616 % m := by
  rw [wrap_u64, Int.emod_eq_of_lt h1 (by omega)]
 simp only [intV, if_neg hne, wrap_u64 a, Int.tmod_eq_emod_of_nonneg h0, hw, uns]
 rw [Int.toNat_of_nonneg h1]
theorem uns_lt (a : Int) (m : Nat) (hm : 0 < m) : uns a m < m := by
 have h1 : 0 ≤ a % 18446744073709551616 % m := Int.emod_nonneg _ (by omega)
 have h2 : a % 18446744073709551616 % m < m := Int.emod_lt_of_pos _ (by omega)
 unfold uns; omega
theorem okRow5 (a b c d e : Value) (t : Nat) : okRow (some (.cells #[a, b, c, d, e] t (0, 0))) 0 5 = true := rfl
theorem row5m (a b c d e p q r s u : Value) (t : Nat) (f : Nat × Nat) : Option.map (rowObj 0 [p, q, r, s, u]) (some (.cells #[a, b, c, d, e] t f)) = some (.cells #[p, q, r, s, u] t f) := rfl
theorem config_ok (d a b c : Int) (t : Bool) (w : World) : Calls pr n_law_config #[vi d, vi a, vi b, vi c, .bool t] w (Ret (cfgV d ⟨uns a 5, uns b 4, uns c 4⟩ t) w) := by
 refine sh_law_config_ok _ _ _ _ _ _ _ ?_
 unfold sh_law_config
 have e1 : intV .rem .u64 (IntKind.u64.wrap a) 5 = some (.int .u64 (uns a 5 : Nat)) := rem_uns a 5 (by decide) (by decide)
 have e2 : intV .rem .u64 (IntKind.u64.wrap b) 4 = some (.int .u64 (uns b 4 : Nat)) := rem_uns b 4 (by decide) (by decide)
 have e3 : intV .rem .u64 (IntKind.u64.wrap c) 4 = some (.int .u64 (uns c 4 : Nat)) := rem_uns c 4 (by decide) (by decide)
 have f1 := uns_lt a 5 (by decide)
 have f2 := uns_lt b 4 (by decide)
 have f3 := uns_lt c 4 (by decide)
 have g1 : IntKind.i64.wrap ((uns a 5 : Nat) : Int) = (uns a 5 : Nat) := wrap64 (by omega) (by omega)
 have g2 : IntKind.i64.wrap ((uns b 4 : Nat) : Int) = (uns b 4 : Nat) := wrap64 (by omega) (by omega)
 have g3 : IntKind.i64.wrap ((uns c 4 : Nat) : Int) = (uns c 4 : Nat) := wrap64 (by omega) (by omega)
 simp only [↓rAl45, ↓rBd45, ↓rRs ag45, ↓RV9, ↓RI, ↓RB, ↓RSs, ↓RT9, ↓RT7, ↓RT, ↓RG, RV, Lm, Lc, Lw, eqA, eqB, eqC, okRow5, row5m, row5all, okRow_putL, e1, e2, e3, g1, g2, g3, ↓reduceIte, isOne, List.all_cons, List.all_nil, Bool.and_self, Nat.reduceLT, decide_true, Nat.reduceAdd, Nat.reduceEqDiff, show ((0 : Nat) = 1) = False from by simp]
 refine ⟨rfl, ?_⟩
 have := Old.refl w
 repeat (first | with_reducible assumption | with_reducible refine Old.putL (by (first | omega | (simp only [size_alloc, size_putL]; done) | (simp only [size_alloc, size_putL]; omega))) ?_ | with_reducible refine Old.put ?_ (by (first | omega | (simp only [size_alloc, size_putL]; done) | (simp only [size_alloc, size_putL]; omega))) | with_reducible refine Old.alloc ?_ _)
end Go.Inv
namespace Go.Inv
open Go.Sh
def WoI (w : World) (src wd : Bytes) (vs : List Value) (w' : World) : Prop := ∃ i : Nat, vs = [vi i] ∧ i ≤ src.length + 1 ∧ w' = w ∧ ∀ j, j < i → ¬ (j + wd.length ≤ src.length ∧ (src.drop j).take wd.length = wd)
theorem word_ok {src wd : Bytes} (hs : src.length ≤ 1100000) (hw : wd.length ≤ 1000) (w : World) :
 Calls pr n_law_word #[.string (S src), .string (S wd)] w fun e w' => w' = w ∧ ∃ b, e = .returned (.bool b) ∧ (b = false → ¬ HasW src wd) := by
 refine sh_law_word_ok _ _ _ _ ?_
 unfold sh_law_word
 refine ⟨WoI w src wd, UnM (src.length + 1), ⟨0, rfl, by omega, rfl, fun j hj => by omega⟩, ?_⟩
 rintro e1 w1 ⟨i, he, hi, rfl, hno⟩
 have e5 : e1 5 = vi i := by simpa using he
 rw [e5]
 have hwr : IntKind.i64.wrap ((i : Int) + (wd.length : Nat)) = ((i + wd.length : Nat) : Int) := by rw [wrap64 (by omega) (by omega)]; omega
 simp only [hwr, ↓RV9, ↓RI, ↓RB, ↓RSs, ↓RT9, ↓RT7, ↓RT, ↓RG, RV]
 refine condJ (p := i + wd.length ≤ src.length) (by simp only [decide_eq_decide]; omega) (fun hle => ?_) (fun hle => ?_)
 ·have hcut : strCut src (i : Int) ((i + wd.length : Nat) : Int) = some (.string (S ((src.drop i).take wd.length))) := by
   unfold strCut
   rw [if_pos ⟨by omega, by omega, by omega⟩]
   congr 3
   unfold piece
   rw [Int.toNat_natCast, Int.toNat_natCast, List.drop_take, Nat.add_sub_cancel_left]
  simp only [hcut, ↓RV9, ↓RI, ↓RB, ↓RSs, ↓RT9, ↓RT7, ↓RT, ↓RG, RV]
  refine condJ (p := (src.drop i).take wd.length = wd) (by rw [Bool.eq_iff_iff]; simp) (fun h => ?_) (fun h => ?_)
  ·exact ⟨true, rfl, fun h => by cases h⟩
  ·have hst : IntKind.i64.wrap ((i : Int) + 1) = ((i + 1 : Nat) : Int) := by rw [wrap64 (by omega) (by omega)]; omega
   rw [hst]
   refine ⟨⟨i + 1, rfl, by omega, rfl, fun j hj => ?_⟩, by simp only [UnM, Int.toNat_natCast]; omega⟩
   rcases Nat.lt_or_eq_of_le (Nat.le_of_lt_succ hj) with h1 | rfl
   ·exact hno j h1
   ·exact fun hh => h hh.2
 ·refine ⟨false, rfl, fun _ hh => ?_⟩
  obtain ⟨j, h1, h2⟩ := hh
  exact hno j (by omega) ⟨h1, h2⟩
end Go.Inv
namespace Go.Inv
mutual
theorem szSt_le : ∀ s : Stmt, szSt s ≤ sizSt s
 | .set _ _ _ => by simp only [szSt, sizSt]; omega
 | .get _ _ => by simp only [szSt, sizSt]; omega
 | .assert _ _ _ => by simp only [szSt, sizSt]; omega
 | .ite _ _ t e _ => by
   have := szLs_le t
   have := szLs_le e
   simp only [szSt, sizSt]; omega
 | .loop _ _ b => by
   have := szLs_le b
   simp only [szSt, sizSt]; omega
theorem szLs_le : ∀ l : Stmts, szLs l ≤ sizL l
 | .nil => by simp only [szLs, sizL]; omega
 | .cons s r => by
   have := szSt_le s
   have := szLs_le r
   simp only [szLs, sizL]; omega
end
theorem read_bounds {src : Bytes} {n : Nat} {p : Prog} (h : readS src n = some (.ok p)) : p.points ≤ 401 ∧ p.sites ≤ 400 ∧ p.nums.length ≤ 400 ∧ szLs p.body ≤ 400 := by
 have hs := read_size h
 have hl2 := szLs_le p.body
 unfold readS at h
 split at h
 ·cases h
 ·rename_i hlen
  split at h
  ·cases h
  ·cases h
  ·rename_i l st hl
   split at h
   ·cases h
   ·cases h
    obtain ⟨k, e⟩ := stsS_size n _ _ _ (st0_wf src) hl
    have := k.wf.ae; have := k.wf.el; have := k.wf.sa; have := k.wf.pa; have := k.wf.na
    simp only at hs hl2 ⊢
    omega
end Go.Inv
namespace Go.Inv
open Go.Sh
theorem bd_105 (a b : Int) (w : World) : (sBuild 105 [(0, vi a), (1, vi b)]).run pr w = .ok (.value (.agg #[vi a, vi b])) w := by kernel_rfl
theorem bd_106 (a b c d e f g h : Int) (w : World) : (sBuild 106 [(0, .agg #[vi a, vi b]), (1, .agg #[vi c, vi d]), (2, .agg #[vi e, vi f]), (3, .agg #[vi g, vi h])]).run pr w = .ok (.value (.agg #[vi a, vi b, vi c, vi d, vi e, vi f, vi g, vi h])) w := by kernel_rfl
theorem bd_49z (w : World) : (sBuild 49 []).run pr w = .ok (.value (.agg #[.slice none 0 0, .slice none 0 0])) w := by kernel_rfl
theorem al_105 (w : World) : (sAlloc 105).run pr w = .ok (.value (pt w.heap.size 0)) (w.alloc (.cells #[vi 0, vi 0] 105)) := by kernel_rfl
theorem ix_106 (a b c d e f g h : Int) (w : World) :
 ((sIdx 106 (.agg #[vi a, vi b, vi c, vi d, vi e, vi f, vi g, vi h]) (vi 0)).run pr w = .ok (.value (.agg #[vi a, vi b])) w) ∧ ((sIdx 106 (.agg #[vi a, vi b, vi c, vi d, vi e, vi f, vi g, vi h]) (vi 1)).run pr w = .ok (.value (.agg #[vi c, vi d])) w) ∧
 ((sIdx 106 (.agg #[vi a, vi b, vi c, vi d, vi e, vi f, vi g, vi h]) (vi 2)).run pr w = .ok (.value (.agg #[vi e, vi f])) w) ∧ ((sIdx 106 (.agg #[vi a, vi b, vi c, vi d, vi e, vi f, vi g, vi h]) (vi 3)).run pr w = .ok (.value (.agg #[vi g, vi h])) w) :=
 ⟨by kernel_rfl, by kernel_rfl, by kernel_rfl, by kernel_rfl⟩
def bx (d a b c : Int) (k : Nat) : Int × Int := match k with
 | 0 => (d, 1)
 | 1 => (a, 4)
 | 2 => (b, 3)
 | _ => (c, 3)
theorem ix_k (d a b c : Int) {k : Nat} (hk : k < 4) (w : World) : (sIdx 106 (.agg #[vi d, vi 1, vi a, vi 4, vi b, vi 3, vi c, vi 3]) (vi k)).run pr w = .ok (.value (.agg #[vi (bx d a b c k).1, vi (bx d a b c k).2])) w := by
 have h := ix_106 d 1 a 4 b 3 c 3 w
 match k, hk with
 | 0, _ => exact h.1
 | 1, _ => exact h.2.1
 | 2, _ => exact h.2.2.1
 | 3, _ => exact h.2.2.2
theorem el105 : elemA pr 105 = some (2, 1) := by kernel_rfl
theorem rIA105 (b : Nat) : Pur pr (sIA 105 (pt b 0) (vi 0)) (pt b 0) ∧ Pur pr (sIA 105 (pt b 0) (vi 1)) (pt b 1) := by
 have h0 := pur_IAa (b := b) (off := 0) el105 (by decide : (0 : Int) ≤ 0) (by decide : (0 : Int) < (2 : Nat))
 have h1 := pur_IAa (b := b) (off := 0) el105 (by decide : (0 : Int) ≤ 1) (by decide : (1 : Int) < (2 : Nat))
 exact ⟨by simpa using h0, by simpa using h1⟩
def AnlP (w : World) (gas : Nat) (cfg : Cfg) (thr : Bool) (res : Except (Nat × Nat) Prog) : Ending → World → Prop := fun e w' => Old w w' ∧ match res with
 | .error (x, a) => ∃ v, e = .returned (.tuple #[.agg #[.slice none 0 0, .slice none 0 0], v]) ∧ ErrAt w' v x a
 | .ok pg => ∃ a rb sb, solveA (spans (if thr then stepsOf pg.nums else [])) cfg gas pg = some a ∧ e = .returned (.tuple #[.agg #[.slice (some ⟨rb, 0, none⟩) pg.points pg.points, .slice (some ⟨sb, 0, none⟩) pg.sites pg.sites], .nilIface]) ∧
  w'.heap[rb]? = some (.cells (fcA spE a.facts) 103 (0, 0)) ∧ w'.heap[sb]? = some (.cells (a.sites.map fun n : Nat => vi n).toArray 3 (0, 0))
def AlI (w : World) (cfg : Cfg) (thr : Bool) (w2 : World) (vs : List Value) (w' : World) : Prop := ∃ k : Nat, vs = [vi k] ∧ k ≤ 4 ∧ Old w2 w' ∧ AnF w 0 cfg thr w'
theorem anl_ok {src : Bytes} {w : World} {gas : Nat} {cfg : Cfg} {thr : Bool} {res : Except (Nat × Nat) Prog} (hrel : RelsAt w) (hres : readS src (steps src) = some res) (hgas : gas ≤ 1000000000) (hcf : cfg.delay ≤ 4 ∧ cfg.narrow ≤ 3 ∧ cfg.unroll ≤ 3)
 (hsv : ∀ pg, res = .ok pg → ∃ a, solveA (spans (if thr then stepsOf pg.nums else [])) cfg gas pg = some a) :
 Calls pr n_inv_Analyze #[.string (S src), cfgV 0 cfg thr] w (AnlP w gas cfg thr res) := by
 refine sh_inv_Analyze_ok _ _ _ _ ?_
 unfold sh_inv_Analyze
 have h0 : AnF w 0 cfg thr ((w.alloc (.cells #[vi 0, vi cfg.delay, vi cfg.narrow, vi cfg.unroll, .bool thr] 45)).alloc (.cells #[.slice none 0 0, .slice none 0 0] 49)) := by
  refine ⟨?_, by (repeat (first | with_reducible assumption | with_reducible exact heap_alloc_at (by (first | omega | (simp only [size_alloc, size_putL]; done) | (simp only [size_alloc, size_putL]; omega))) | with_reducible refine (heap_alloc_ne (by (first | omega | (simp only [size_alloc, size_putL]; done) | (simp only [size_alloc, size_putL]; omega)))).trans ?_ | with_reducible refine (heap_putL_ne (by (first | omega | (simp only [size_alloc, size_putL]; done) | (simp only [size_alloc, size_putL]; omega))) _ _ _).trans ?_ | with_reducible apply putSp)), by (repeat (first | with_reducible assumption | with_reducible exact heap_alloc_at (by (first | omega | (simp only [size_alloc, size_putL]; done) | (simp only [size_alloc, size_putL]; omega))) | with_reducible refine (heap_alloc_ne (by (first | omega | (simp only [size_alloc, size_putL]; done) | (simp only [size_alloc, size_putL]; omega)))).trans ?_ | with_reducible refine (heap_putL_ne (by (first | omega | (simp only [size_alloc, size_putL]; done) | (simp only [size_alloc, size_putL]; omega))) _ _ _).trans ?_ | with_reducible apply putSp))⟩
  have := Old.refl w
  (repeat (first | with_reducible assumption | with_reducible refine Old.putL (by (first | omega | (simp only [size_alloc, size_putL]; done) | (simp only [size_alloc, size_putL]; omega))) ?_ | with_reducible refine Old.alloc ?_ _))
 simp only [cfgV, ↓RV9, ↓RI, ↓RB, ↓RSs, ↓RT9, ↓RT7, ↓RT, ↓RG, RV, agg_cells, size_alloc]
 generalize ((w.alloc (.cells #[vi 0, vi cfg.delay, vi cfg.narrow, vi cfg.unroll, .bool thr] 45)).alloc (.cells #[.slice none 0 0, .slice none 0 0] 49)) = w1 at *
 refine cl_of (read_ok (hrel.old h0.old) hres) ?_
 rintro e w2 ⟨ho2, hr⟩
 have h2 : AnF w 0 cfg thr w2 := ⟨h0.old.trans ho2, ho2.heap h0.b3, ho2.heap h0.b4⟩
 cases res with
 | error xa =>
   obtain ⟨x, a⟩ := xa
   obtain ⟨v, rfl, he⟩ := hr
   have e4 := putSp (p := .slice none 0 0) (q := .slice none 0 0) h2.b4
   simp only [endK, ↓o_val (he.neq _), ↓o_val (bd_49z _), ↓RV9, ↓RI, ↓RB, ↓RSs, ↓RT9, ↓RT7, ↓RT, ↓RG, RV, Lc, h2.b4, e4, isOne, List.all_cons, List.all_nil]
   refine ⟨h2.old.putL (by omega), v, rfl, ?_⟩
   rcases he with h | ⟨b, h1, h3⟩
   ·exact .inl h
   ·refine .inr ⟨b, h1, ?_⟩
    have hb : b ≠ w.heap.size + 1 := by rintro rfl; rw [h2.b4] at h3; cases h3
    rw [heap_putL_ne hb]; exact h3
 | ok pg =>
   obtain ⟨pb, rfl, bv, nv, hn, hL, ⟨xs, hrow, hsts⟩, hnums⟩ := hr
   obtain ⟨a, hsol⟩ := hsv pg rfl
   obtain ⟨bp, bs, bn, bz⟩ := read_bounds hres
   simp only [endK, ↓o_val (neqE_nil _), ↓o_val (bd_105 _ _ _), ↓o_val (bd_106 _ _ _ _ _ _ _ _ _), ↓RV9, ↓RI, ↓RB, ↓RSs, ↓RT9, ↓RT7, ↓RT, ↓RG, RV, Lc, h2.b3]
   refine ⟨AlI w cfg thr w2, UnM 4, ⟨0, rfl, by omega, Old.refl _, h2⟩, ?_⟩
   rintro e1 w3 ⟨k, he, hk, ho3, h3⟩
   have e32 : e1 32 = vi k := by simpa using he
   rw [e32]
   simp only [↓RV9, ↓RI, ↓RB, ↓RSs, ↓RT9, ↓RT7, ↓RT, ↓RG, RV]
   refine condJ (p := k < 4) (by simp only [decide_eq_decide]; omega) (fun h4 => ?_) (fun h4 => ?_)
   ·have hb : 0 ≤ (bx 0 cfg.delay cfg.narrow cfg.unroll k).1 ∧ (bx 0 cfg.delay cfg.narrow cfg.unroll k).1 ≤ (bx 0 cfg.delay cfg.narrow cfg.unroll k).2 := by
     match k, h4 with
     | 0, _ => exact ⟨by simp [bx], by simp [bx]⟩
     | 1, _ => exact ⟨by simp [bx], by simp only [bx]; omega⟩
     | 2, _ => exact ⟨by simp [bx], by simp only [bx]; omega⟩
     | 3, _ => exact ⟨by simp [bx], by simp only [bx]; omega⟩
    have ix := ix_k 0 cfg.delay cfg.narrow cfg.unroll h4 w3
    generalize bx 0 cfg.delay cfg.narrow cfg.unroll k = xm at hb ix
    obtain ⟨x, m⟩ := xm
    simp only at hb ix
    have jz : (w3.alloc (.cells #[vi 0, vi 0] 105)).heap[w3.heap.size]? = some (.cells #[vi 0, vi 0] 105) := heap_alloc_self _
    have c9 := putSp (p := vi x) (q := vi m) jz
    have ho4 : Old w3 (putL (w3.alloc (.cells #[vi 0, vi 0] 105)) w3.heap.size 0 [vi x, vi m]) := ((Old.refl w3).alloc _).putL (Nat.le_refl _)
    simp only [↓o_val ix, ↓o_val (al_105 _), ↓RV9, ↓RI, ↓RB, ↓RSs, ↓RT9, ↓RT7, ↓RT, ↓RG, RV, Lc, jz, isOne, List.all_cons, List.all_nil]
    generalize putL (w3.alloc (.cells #[vi 0, vi 0] 105)) w3.heap.size 0 [vi x, vi m] = w4 at *
    generalize w3.heap.size = b9 at *
    have d1 : decide (x < 0) = false := by simp; omega
    have d2 : decide (x > m) = false := by simp; omega
    simp only [(rIA105 b9).1.o, (rIA105 b9).2.o, c9, d1, d2, ↓RV9, ↓RI, ↓RB, ↓RSs, ↓RT9, ↓RT7, ↓RT, ↓RG, RV, Lc, cond_true, cond_false, Is.step (show k ≤ 1000000001 by omega)]
    exact ⟨⟨k + 1, rfl, by omega, ho3.trans ho4, ⟨h3.old.trans ho4, ho4.heap h3.b3, ho4.heap h3.b4⟩⟩, by simp only [UnM, Int.toNat_natCast]; omega⟩
   ·have hg := readS_good hres
    have hsz3 := ho3.size
    have hni : IntsAt w2 nv (pg.nums.map fun n : Nat => (n : Int)) := by
     have hh : w2.ownsRow w1.heap.size 3 1 nv (pg.nums.map fun n : Nat => (n : Int)).length ((pg.nums.map fun n : Nat => (n : Int)).map vi) := by
      rw [List.length_map, List.map_map]; exact hnums
     exact (OwnInts hh).1
    simp only [↓RV9, ↓RI, ↓RB, ↓RSs, ↓RT9, ↓RT7, ↓RT, ↓RG, RV, h3.b3, row5all]
    refine cl_of (analyze_walk (d := 0) (a := a) (gas := gas) (by decide) hg (by omega) (by omega) (by omega) hgas (by omega) (ho3.heap hn) (hrow.keep' (fun c _ hc => Nat.lt_of_lt_of_le hc hsz3) (fun c cs t _ _ hn => ho3.heap hn)) (hsts.keep' (fun c _ hc => Nat.lt_of_lt_of_le hc hsz3) (fun c cs t _ _ hn => ho3.heap hn) ho3.keepS) (hni.old ho3) (by omega) hsol) ?_
    rintro e w4 ⟨rb, sb, rfl, ho4, hrb, hsb⟩
    have d4 := ho4.heap h3.b4
    have e4 := putSp (p := .slice (some ⟨rb, 0, none⟩) pg.points pg.points) (q := .slice (some ⟨sb, 0, none⟩) pg.sites pg.sites) d4
    simp only [endK, ↓RV9, ↓RI, ↓RB, ↓RSs, ↓RT9, ↓RT7, ↓RT, ↓RG, RV, Lc, d4, e4, isOne, List.all_cons, List.all_nil]
    refine ⟨(h3.old.trans ho4).putL (by omega), a, rb, sb, hsol, rfl, ?_, ?_⟩
    ·rw [heap_putL_ne (by rintro rfl; rw [d4] at hrb; injection hrb with hh; injection hh with _ hh; exact absurd hh (by decide))]; exact hrb
    ·rw [heap_putL_ne (by rintro rfl; rw [d4] at hsb; injection hsb with hh; injection hh with _ hh; exact absurd hh (by decide))]; exact hsb
end Go.Inv
namespace Go.Inv
open Go.Sh
def kSrc : Bytes := [97, 32, 61, 32, 54, 59, 32, 98, 32, 61, 32, 97, 32, 47, 32, 50, 59, 32, 114, 101, 97, 100, 32, 99, 59, 32, 97, 115, 115, 101, 114, 116, 32, 99, 32, 33, 61, 32, 49, 59]
def kPg : Prog := ⟨.cons (.set 0 0 (.num 6)) (.cons (.set 1 1 (.two 47 (.name 0) (.num 2) 0)) (.cons (.get 2 2) (.cons (.assert 3 ⟨.name 2, .num 1, 5⟩ 1) .nil))), 5, 2, [6, 2, 1]⟩
theorem k_read : readS kSrc (steps kSrc) = some (.ok kPg) := by kernel_rfl
end Go.Inv
namespace Go.Inv
open Go.Sh
def aK : AS Span := ((solveA (spans []) ⟨0, 0, 0⟩ 1 kPg).getD ⟨[], []⟩)
theorem k_sol : solveA (spans []) ⟨0, 0, 0⟩ 1 kPg = some aK := by kernel_rfl
theorem k_row : blkRow (some (.cells (fcA spE aK.facts) 103 (0, 0))) 71 2 = some (.agg #[vi 3, vi 3]) := by kernel_rfl
theorem k_some : (fcA spE aK.facts)[68]? = some (.bool true) := by kernel_rfl
theorem k_site0 : ((aK.sites.map fun n : Nat => vi n).toArray)[0]? = some (vi 1) := by kernel_rfl
theorem k_site1 : ((aK.sites.map fun n : Nat => vi n).toArray)[1]? = some (vi 2) := by kernel_rfl
theorem bd_45z (w : World) : (sBuild 45 [(0, vi 0)]).run pr w = .ok (.value (cfgV 0 ⟨0, 0, 0⟩ false)) w := by kernel_rfl
theorem al_100 (w : World) : (sAlloc 100).run pr w = .ok (.value (pt w.heap.size 0)) (w.alloc (.cells #[vi 0, vi 0] 100)) := by kernel_rfl
theorem ia47_4 (b : Nat) : Pur pr (sIA 47 (.slice (some ⟨b, 0, none⟩) 5 5) (vi 4)) (pt b 68) := rIA47 b 5 5 4 (by decide)
theorem ia101_1 (b : Nat) : Pur pr (sIA 101 (pt b 69) (vi 1)) (pt b 71) := rIA101 b 69 1 (by decide)
theorem ia22_0 (b : Nat) : Pur pr (sIA 22 (.slice (some ⟨b, 0, none⟩) 2 2) (vi 0)) (pt b 0) := rIAs22 b 2 2 0 (by decide)
theorem ia22_1 (b : Nat) : Pur pr (sIA 22 (.slice (some ⟨b, 0, none⟩) 2 2) (vi 1)) (pt b 1) := rIAs22 b 2 2 1 (by decide)
theorem knows_ok {w : World} (hrel : RelsAt w) : Calls pr n_law_knows #[vi 0] w fun e w' => e = .returned (.bool true) ∧ Old w w' := by
 refine sh_law_knows_ok _ _ _ ?_
 unfold sh_law_knows
 simp only [↓o_val (bd_45z _)]
 refine cl_of (anl_ok (src := kSrc) (gas := 1) hrel k_read (by decide) (by decide) (fun pg h => by cases h; exact ⟨aK, k_sol⟩)) ?_
 rintro e w2 ⟨ho2, a, rb, sb, hsol, rfl, hrb, hsb⟩
 have ha : a = aK := by
  have : solveA (spans []) ⟨0, 0, 0⟩ 1 kPg = some a := hsol
  rw [k_sol] at this; exact (Option.some.inj this).symm
 subst ha
 have jz : (w2.alloc (.cells #[.slice none 0 0, .slice none 0 0] 49)).heap[w2.heap.size]? = some (.cells #[.slice none 0 0, .slice none 0 0] 49) := heap_alloc_self _
 have c3 := putSp (p := .slice (some ⟨rb, 0, none⟩) 5 5) (q := .slice (some ⟨sb, 0, none⟩) 2 2) jz
 have ho3 : Old w2 (putL (w2.alloc (.cells #[.slice none 0 0, .slice none 0 0] 49)) w2.heap.size 0 [.slice (some ⟨rb, 0, none⟩) 5 5, .slice (some ⟨sb, 0, none⟩) 2 2]) := ((Old.refl w2).alloc _).putL (Nat.le_refl _)
 simp only [endK, show kPg.points = 5 from rfl, show kPg.sites = 2 from rfl, ↓RV9, ↓RI, ↓RB, ↓RSs, ↓RT9, ↓RT7, ↓RT, ↓RG, RV, Lc, jz, isOne, List.all_cons, List.all_nil]
 generalize putL (w2.alloc (.cells #[.slice none 0 0, .slice none 0 0] 49)) w2.heap.size 0 [.slice (some ⟨rb, 0, none⟩) 5 5, .slice (some ⟨sb, 0, none⟩) 2 2] = w3 at *
 generalize w2.heap.size = b3 at *
 refine cl_of (tell_nil w3) ?_
 rintro e w4 ⟨rfl, ho4⟩
 simp only [endK, ↓RV9, ↓RI, ↓RB, ↓RSs, ↓RT9, ↓RT7, ↓RT, ↓RG, RV]
 refine cl_of (num_ok _ _) ?_
 rintro e w5 ⟨rfl, rfl⟩
 have d3 := ho4.heap c3
 have drb := ho4.heap (ho3.heap hrb)
 have dsb := ho4.heap (ho3.heap hsb)
 simp only [endK, ↓RV9, ↓RI, ↓RB, ↓RSs, ↓RT9, ↓RT7, ↓RT, ↓RG, RV, Lc, d3, cond_true, cond_false]
 have z0 : (((0 : Nat) : Int) != 0) = false := rfl
 have z5 : (((5 : Nat) : Int) != 5) = false := rfl
 have z2 : (((2 : Nat) : Int) != 2) = false := rfl
 have kz : (w5.alloc (.cells #[vi 0, vi 0] 100)).heap[w5.heap.size]? = some (.cells #[vi 0, vi 0] 100) := heap_alloc_self _
 have c7 := putSp (p := vi 3) (q := vi 3) kz
 have ho6 : Old w5 (putL (w5.alloc (.cells #[vi 0, vi 0] 100)) w5.heap.size 0 [vi 3, vi 3]) := ((Old.refl w5).alloc _).putL (Nat.le_refl _)
 simp only [z0, z5, z2, ↓RV9, ↓RI, ↓RB, ↓RSs, ↓RT9, ↓RT7, ↓RT, ↓RG, RV, Lc, d3, drb, k_row, (ia47_4 rb).o, (ia101_1 rb).o, Nat.reduceAdd, cond_true, cond_false, ↓o_val (al_100 _), kz, List.all_cons, List.all_nil]
 generalize putL (w5.alloc (.cells #[vi 0, vi 0] 100)) w5.heap.size 0 [vi 3, vi 3] = w6 at *
 generalize w5.heap.size = b7 at *
 have f3 := ho6.heap d3
 have frb := ho6.heap drb
 have fsb := ho6.heap dsb
 have y3 : ((3 : Int) == 3) = true := rfl
 have y1 : ((1 : Int) == 1) = true := rfl
 have y2 : ((2 : Int) == 2) = true := rfl
 simp only [y1, y2, y3, ↓RV9, ↓RI, ↓RB, ↓RSs, ↓RT9, ↓RT7, ↓RT, ↓RG, RV, Lc, f3, frb, fsb, k_some, k_site0, k_site1, c7, (ia47_4 rb).o, (ia22_0 sb).o, (ia22_1 sb).o, cond_true, cond_false]
 exact ((ho2.trans ho3).trans ho4).trans ho6
end Go.Inv
namespace Go.Inv
open Go.Sh
theorem u2r : pr.underlying 2 = some (.int .i64) := by kernel_rfl
theorem u100r : pr.underlying 100 = some (.struct (pr.fieldsOf 100)) := by kernel_rfl
theorem s100r : pr.stoodInHeld 100 = false := by kernel_rfl
theorem u103r : pr.underlying 103 = some (.struct (pr.fieldsOf 103)) := by kernel_rfl
theorem s103r : pr.stoodInHeld 103 = false := by kernel_rfl
theorem g103r : pr.eqGuardType pr.depth 103 = false := by kernel_rfl
theorem u101r : pr.underlying 101 = some (.array 8 100) := by kernel_rfl
theorem co100r : pr.cellsOf 100 = 2 := by kernel_rfl
theorem f100r : ∃ f g, (pr.fieldsOf 100).toList = [f, g] ∧ f.name = "A" ∧ g.name = "B" ∧ f.type = 2 ∧ f.offset = 0 ∧ g.type = 2 ∧ g.offset = 1 :=
 ⟨(pr.fieldsOf 100).toList[0]!, (pr.fieldsOf 100).toList[1]!, by kernel_rfl, by kernel_rfl, by kernel_rfl, by kernel_rfl, by kernel_rfl, by kernel_rfl, by kernel_rfl⟩
theorem f103r : ∃ f g, (pr.fieldsOf 103).toList = [f, g] ∧ f.name = "Reached" ∧ g.name = "Values" ∧ f.type = 4 ∧ f.offset = 0 ∧ g.type = 101 ∧ g.offset = 1 :=
 ⟨(pr.fieldsOf 103).toList[0]!, (pr.fieldsOf 103).toList[1]!, by kernel_rfl, by kernel_rfl, by kernel_rfl, by kernel_rfl, by kernel_rfl, by kernel_rfl, by kernel_rfl⟩
theorem ag101vr : aggT pr 101 = some 16 := by kernel_rfl
theorem i100r : ∃ i, pr.info? 100 = some i := by
 have : (pr.info? 100).isSome = true := by kernel_rfl
 exact Option.isSome_iff_exists.mp this
theorem eqSpr (d : Nat) (x y : Span) (w : World) : (Op.equalIn (d + 2) 100 (spV x) (spV y)).run pr w = .ok (decide (x = y)) w := by
 rw [run_equalIn_struct w (d + 1) 100 _ _ u100r s100r]
 obtain ⟨f, g, hfg, hf, hg, ft, fo, gt, go⟩ := f100r
 have hp1 : ∀ a b : Int, (part 2 #[vi a, vi b] 0).run pr w = .ok (vi a) w := fun a b => by simp [part, isAgg, run_underlying u2r]
 have hp2 : ∀ a b : Int, (part 2 #[vi a, vi b] 1).run pr w = .ok (vi b) w := fun a b => by simp [part, isAgg, run_underlying u2r]
 rw [hfg]
 have n1 : f.name ≠ "_" := by rw [hf]; decide
 have n2 : g.name ≠ "_" := by rw [hg]; decide
 simp only [Op.eqFields, ne_eq, n1, n2, not_false_eq_true, if_true, Sem.run_bind, ft, fo, gt, go, hp1, hp2, Result.andThen_ok, run_equalIn_int w d 2 .i64 .i64 _ _ u2r]
 obtain ⟨a, b⟩ := x
 obtain ⟨a', b'⟩ := y
 by_cases ha : a = a'
 ·subst ha
  by_cases hb : b = b'
  ·subst hb; simp [hp2, run_equalIn_int w d 2 .i64 .i64 _ _ u2r]
  ·simp [hp2, run_equalIn_int w d 2 .i64 .i64 _ _ u2r, hb]
 ·simp [ha]
theorem eqItems_spr (d : Nat) (xs ys : Array Value) (vx vy : Nat → Span) (w : World) : ∀ is : List Nat, (∀ i ∈ is, (part 100 xs (i * 2)).run pr w = .ok (spV (vx i)) w ∧ (part 100 ys (i * 2)).run pr w = .ok (spV (vy i)) w) →
 (Op.eqItems (d + 2) 100 2 xs ys is).run pr w = .ok (is.all fun i => decide (vx i = vy i)) w
 | [], _ => by simp [Op.eqItems]
 | i :: is, h => by
   obtain ⟨h1, h2⟩ := h i (by simp)
   have ih := eqItems_spr d xs ys vx vy w is fun j hj => h j (by simp [hj])
   simp only [Op.eqItems, Sem.run_bind, h1, h2, Result.andThen_ok, eqSpr d, List.all_cons]
   by_cases hq : vx i = vy i
   ·simp [hq, ih]
   ·simp [hq]
theorem vars_partr {x : St Span} (hx : x.vars.length = 8) {i : Nat} (hi : i < 8) (w : World) : (part 100 ((x.vars.flatMap spE.l).toArray) (i * 2)).run pr w = .ok (spV (x.vars.getD i ⟨0, 0⟩)) w := by
 obtain ⟨h1, h2⟩ := aggT_spec (w := w) ag100
 have hlt : i < x.vars.length := by omega
 have hs := flat_split (f := spE.l) hlt
 have hl := take_len (f := spE.l) (k := 2) (fun _ _ => rfl) hlt
 have hext : ((x.vars.flatMap spE.l).toArray).extract (i * 2) (i * 2 + 2) = #[vi (x.vars.getD i ⟨0, 0⟩).lo, vi (x.vars.getD i ⟨0, 0⟩).hi] := by
  apply Array.toList_inj.1
  rw [hs]
  simp only [List.extract_toArray, List.extract_eq_take_drop]
  rw [show i * 2 + 2 - i * 2 = 2 by omega, List.drop_append_of_le_length (by omega), List.drop_of_length_le (by omega)]
  simp [List.getD_eq_getElem?_getD, hlt, spE, Emb.l]
 unfold part
 simp only [Sem.run_bind, h1, h2, Result.andThen_ok, if_true, hext, Sem.run_pure]
theorem eqStr (d : Nat) {x y : St Span} (hx : x.vars.length = 8) (hy : y.vars.length = 8) (w : World) : (Op.equalIn (d + 4) 103 (stVl x) (stVl y)).run pr w = .ok (decide (x = y)) w := by
 rw [run_equalIn_struct w (d + 3) 103 _ _ u103r s103r]
 obtain ⟨f, g, hfg, hf, hg, ft, fo, gt, go⟩ := f103r
 obtain ⟨h1, h2⟩ := aggT_spec (w := w) ag101vr
 obtain ⟨i, hi⟩ := i100r
 have hp1 : ∀ z : St Span, (part 4 (sA z) 0).run pr w = .ok (.bool z.some) w := fun z => by simp [part, isAgg, run_underlying u4, sA, stA, stL]
 have hp2 : ∀ z : St Span, z.vars.length = 8 → (part 101 (sA z) 1).run pr w = .ok (.agg (z.vars.flatMap spE.l).toArray) w := fun z hz => by
  have hl := stA_size spE hz
  have hext : (sA z).extract 1 (1 + 16) = (z.vars.flatMap spE.l).toArray := by
   unfold sA stA stL
   simp only [List.extract_toArray, List.extract_eq_take_drop, List.drop_succ_cons, List.drop_zero]
   rw [List.take_of_length_le (by rw [flat_len (k := 2) (fun _ _ => rfl), hz]; omega)]
  unfold part
  simp only [Sem.run_bind, h1, h2, Result.andThen_ok, if_true, hext, Sem.run_pure]
 have hv : (Op.equalIn (d + 3) 101 (.agg (x.vars.flatMap spE.l).toArray) (.agg (y.vars.flatMap spE.l).toArray)).run pr w = .ok (decide (x.vars = y.vars)) w := by
  rw [run_equalIn_array w (d + 2) _ _ u101r hi, co100r, eqItems_spr d _ _ (fun i => x.vars.getD i ⟨0, 0⟩) (fun i => y.vars.getD i ⟨0, 0⟩) w, eqVars hx hy]
  intro j hj
  have : j < 8 := by simpa using hj
  exact ⟨vars_partr hx this w, vars_partr hy this w⟩
 rw [hfg]
 have n1 : f.name ≠ "_" := by rw [hf]; decide
 have n2 : g.name ≠ "_" := by rw [hg]; decide
 simp only [Op.eqFields, ne_eq, n1, n2, not_false_eq_true, if_true, Sem.run_bind, ft, fo, gt, go, hp1, Result.andThen_ok, run_equalIn_bool w (d + 2) 4 _ _ u4]
 obtain ⟨sx, vx⟩ := x
 obtain ⟨sy, vy⟩ := y
 by_cases ha : sx = sy
 ·subst ha
  by_cases hb : vx = vy
  ·subst hb; simp [hp2 _ hx, hv]
  ·simp [hp2 _ hx, hp2 _ hy, hv, hb]
 ·simp [ha]
theorem neq_fact {x y : St Span} (hx : x.vars.length = 8) (hy : y.vars.length = 8) (w : World) : (sBin .neq 103 (stVl x) (stVl y) 103).run pr w = .ok (.value (.bool (!decide (x = y)))) w := by
 simp only [sBin, execOp]
 have hb : (Nat.beq 1 0) = false := rfl
 simp [ev, hb, run_eqGuard_agg w _ _ _ _ _ _ g103r, run_neq_struct, eqStr 9996 hx hy w]
end Go.Inv
namespace Go.Inv
open Go.Sh
def repA (rb sb P S : Nat) : Value := .agg #[.slice (some ⟨rb, 0, none⟩) P P, .slice (some ⟨sb, 0, none⟩) S S]
def SrI (w1 : World) (n : Nat) (vs : List Value) (w' : World) : Prop := ∃ k : Nat, vs = [vi k] ∧ k ≤ n ∧ Old w1 w'
theorem same_ok {w : World} {r1 s1 r2 s2 P S T1 T2 T3 T4 : Nat} {fs : List (St Span)} {ss : List Nat} (hP : fs.length = P) (hS : ss.length = S) (bP : P ≤ 1000000000) (bS : S ≤ 1000000000) (hl : ∀ x ∈ fs, x.vars.length = 8)
 (a1 : w.heap[r1]? = some (.cells (fcA spE fs) T1 (0, 0))) (a2 : w.heap[r2]? = some (.cells (fcA spE fs) T2 (0, 0))) (b1 : w.heap[s1]? = some (.cells (ss.map fun n : Nat => vi n).toArray T3 (0, 0))) (b2 : w.heap[s2]? = some (.cells (ss.map fun n : Nat => vi n).toArray T4 (0, 0))) :
 Calls pr n_law_sameReports #[repA r1 s1 P S, repA r2 s2 P S] w fun e w' => e = .returned (.bool true) ∧ Old w w' := by
 refine sh_law_sameReports_ok _ _ _ _ ?_
 unfold sh_law_sameReports
 have ho : Old w ((w.alloc (.cells #[.slice (some ⟨r1, 0, none⟩) P P, .slice (some ⟨s1, 0, none⟩) S S] 49)).alloc (.cells #[.slice (some ⟨r2, 0, none⟩) P P, .slice (some ⟨s2, 0, none⟩) S S] 49)) := by
  have := Old.refl w
  (repeat (first | with_reducible assumption | with_reducible refine Old.putL (by (first | omega | (simp only [size_alloc, size_putL]; done) | (simp only [size_alloc, size_putL]; omega))) ?_ | with_reducible refine Old.alloc ?_ _))
 have c2 : ((w.alloc (.cells #[.slice (some ⟨r1, 0, none⟩) P P, .slice (some ⟨s1, 0, none⟩) S S] 49)).alloc (.cells #[.slice (some ⟨r2, 0, none⟩) P P, .slice (some ⟨s2, 0, none⟩) S S] 49)).heap[w.heap.size]? = some (.cells #[.slice (some ⟨r1, 0, none⟩) P P, .slice (some ⟨s1, 0, none⟩) S S] 49 (0, 0)) := by (repeat (first | with_reducible assumption | with_reducible exact heap_alloc_at (by (first | omega | (simp only [size_alloc, size_putL]; done) | (simp only [size_alloc, size_putL]; omega))) | with_reducible refine (heap_alloc_ne (by (first | omega | (simp only [size_alloc, size_putL]; done) | (simp only [size_alloc, size_putL]; omega)))).trans ?_ | with_reducible refine (heap_putL_ne (by (first | omega | (simp only [size_alloc, size_putL]; done) | (simp only [size_alloc, size_putL]; omega))) _ _ _).trans ?_ | with_reducible apply putSp))
 have c3 : ((w.alloc (.cells #[.slice (some ⟨r1, 0, none⟩) P P, .slice (some ⟨s1, 0, none⟩) S S] 49)).alloc (.cells #[.slice (some ⟨r2, 0, none⟩) P P, .slice (some ⟨s2, 0, none⟩) S S] 49)).heap[w.heap.size + 1]? = some (.cells #[.slice (some ⟨r2, 0, none⟩) P P, .slice (some ⟨s2, 0, none⟩) S S] 49 (0, 0)) := by (repeat (first | with_reducible assumption | with_reducible exact heap_alloc_at (by (first | omega | (simp only [size_alloc, size_putL]; done) | (simp only [size_alloc, size_putL]; omega))) | with_reducible refine (heap_alloc_ne (by (first | omega | (simp only [size_alloc, size_putL]; done) | (simp only [size_alloc, size_putL]; omega)))).trans ?_ | with_reducible refine (heap_putL_ne (by (first | omega | (simp only [size_alloc, size_putL]; done) | (simp only [size_alloc, size_putL]; omega))) _ _ _).trans ?_ | with_reducible apply putSp))
 simp only [repA, ↓RV9, ↓RI, ↓RB, ↓RSs, ↓RT9, ↓RT7, ↓RT, ↓RG, RV, agg_cells, size_alloc]
 generalize ((w.alloc (.cells #[.slice (some ⟨r1, 0, none⟩) P P, .slice (some ⟨s1, 0, none⟩) S S] 49)).alloc (.cells #[.slice (some ⟨r2, 0, none⟩) P P, .slice (some ⟨s2, 0, none⟩) S S] 49)) = w1 at *
 have n1 : ((P : Int) != (P : Int)) = false := by simp
 have n2 : ((S : Int) != (S : Int)) = false := by simp
 have a1' := ho.heap a1
 have a2' := ho.heap a2
 have b1' := ho.heap b1
 have b2' := ho.heap b2
 simp only [n1, n2, c2, c3, ↓RV9, ↓RI, ↓RB, ↓RSs, ↓RT9, ↓RT7, ↓RT, ↓RG, RV, cond_true, cond_false]
 refine ⟨SrI w1 P, UnM P, ⟨0, rfl, Nat.zero_le _, Old.refl _⟩, ?_⟩
 rintro e1 w2 ⟨k, he, hk, hoo⟩
 have c2 := hoo.heap c2
 have c3 := hoo.heap c3
 have a1' := hoo.heap a1'
 have a2' := hoo.heap a2'
 have b1' := hoo.heap b1'
 have b2' := hoo.heap b2'
 have e5 : e1 5 = vi k := by simpa using he
 rw [e5]
 simp only [c2, c3, ↓RV9, ↓RI, ↓RB, ↓RSs, ↓RT9, ↓RT7, ↓RT, ↓RG, RV]
 refine condJ (p := k < P) (by simp only [decide_eq_decide]; omega) (fun hlt => ?_) (fun hlt => ?_)
 ·have hkf : k < fs.length := by omega
  have lx := hl _ (mem_getD (d := n0) hkf)
  have nq := neq_fact lx lx
  simp only [c2, c3, a1', a2', (rIA47 _ _ _ _ hlt).oz, fc_get spE n0 hl hkf, (fun k => oz_val (k := k) nq), decide_true, Bool.not_true, ↓RV9, ↓RI, ↓RB, ↓RSs, ↓RT9, ↓RT7, ↓RT, ↓RG, RV, Is.step (show k ≤ 1000000001 by omega)]
  exact ⟨⟨k + 1, rfl, hlt, hoo.dr⟩, by simp only [UnM, Int.toNat_natCast]; omega⟩
 ·refine ⟨SrI w2 S, UnM S, ⟨0, rfl, Nat.zero_le _, Old.refl _⟩, ?_⟩
  rintro e2 w3 ⟨j, he2, hj, hop⟩
  have c2 := hop.heap c2
  have c3 := hop.heap c3
  have b1' := hop.heap b1'
  have b2' := hop.heap b2'
  have e6 : e2 6 = vi j := by simpa using he2
  rw [e6]
  simp only [c2, c3, ↓RV9, ↓RI, ↓RB, ↓RSs, ↓RT9, ↓RT7, ↓RT, ↓RG, RV]
  refine condJ (p := j < S) (by simp only [decide_eq_decide]; omega) (fun hjl => ?_) (fun hjl => ?_)
  ·have hjs : j < ss.length := by omega
   have ny : (((ss.getD j 0 : Nat) : Int) != ((ss.getD j 0 : Nat) : Int)) = false := by simp
   have gs : ((ss.map fun n : Nat => vi n).toArray)[j]? = some (vi (ss.getD j 0 : Nat)) := getSite (t := 0) (f := (0, 0)) hjs
   simp only [c2, c3, b1', b2', (rIAs22 _ _ _ _ hjl).oz, gs, ny, ↓RV9, ↓RI, ↓RB, ↓RSs, ↓RT9, ↓RT7, ↓RT, ↓RG, RV, Is.step (show j ≤ 1000000001 by omega)]
   exact ⟨⟨j + 1, rfl, hjl, hop.dr⟩, by simp only [UnM, Int.toNat_natCast]; omega⟩
  ·first | exact ⟨rfl, (ho.trans hoo).trans hop⟩ | exact (ho.trans hoo).trans hop
end Go.Inv
namespace Go.Inv
open Go.Sh
abbrev GAS : Nat := 1000000
theorem solve_some (steps : List Int) (cfg : Cfg) {pg : Prog} (hg : ProgG pg) : ∃ a, solveA (spans steps) cfg GAS pg = some a :=
 solve_tot (spansOk steps) (by show 8 * 65535 + 1 < 1000000; omega) hg
theorem solve_shape {steps : List Int} {cfg : Cfg} {g : Nat} {pg : Prog} {a : AS Span} (hg : ProgG pg) (h : solveA (spans steps) cfg g pg = some a) :
 a.facts.length = pg.points ∧ a.sites.length = pg.sites ∧ ∀ x ∈ a.facts, x.vars.length = 8 := by
 obtain ⟨hi, -, -⟩ := solve_sound (O := spansOk steps) hg h (inp := []) (fun _ hx => by cases hx) 0
 refine ⟨hi.fl, hi.sl, fun x hx => ?_⟩
 obtain ⟨i, hi', rfl⟩ := List.getElem_of_mem hx
 have := (hi.fi i).len
 rwa [List.getD_eq_getElem?_getD, List.getElem?_eq_getElem hi'] at this
def anS (src : Bytes) (cfg : Cfg) (thr : Bool) : Option (List (St Span) × List Nat) × Nat := match readS src (steps src) with
 | some (.ok pg) => match solveA (spans (if thr then stepsOf pg.nums else [])) cfg GAS pg with
   | some a => (some (a.facts, a.sites), 0)
   | none => (none, 0)
 | some (.error (x, _)) => (none, x)
 | none => (none, 0)
def RepAt (w : World) (r : Value) : Option (List (St Span) × List Nat) → Prop
 | none => r = .agg #[.slice none 0 0, .slice none 0 0]
 | some (fs, ss) => ∃ rb sb, r = repA rb sb fs.length ss.length ∧ fs.length ≤ 1000000000 ∧ ss.length ≤ 1000000000 ∧ (∀ x ∈ fs, x.vars.length = 8) ∧
  w.heap[rb]? = some (.cells (fcA spE fs) 103 (0, 0)) ∧ w.heap[sb]? = some (.cells (ss.map fun n : Nat => vi n).toArray 3 (0, 0))
theorem RepAt.old {w w' : World} {r : Value} {x : Option (List (St Span) × List Nat)} (h : RepAt w r x) (ho : Old w w') : RepAt w' r x := by
 match x with
 | none => exact h
 | some (fs, ss) =>
   obtain ⟨rb, sb, h1, h2, h3, h4, h5, h6⟩ := h
   exact ⟨rb, sb, h1, h2, h3, h4, ho.heap h5, ho.heap h6⟩
theorem RepAt.two {w : World} {r : Value} {x : Option (List (St Span) × List Nat)} (h : RepAt w r x) : ∃ p q, r = .agg #[p, q] ∧ isOne p = true ∧ isOne q = true := by
 match x with
 | none => exact ⟨_, _, h, rfl, rfl⟩
 | some (fs, ss) =>
   obtain ⟨rb, sb, h1, -⟩ := h
   exact ⟨_, _, h1, rfl, rfl⟩
theorem anl_rep {src : Bytes} {w : World} {cfg : Cfg} {thr : Bool} (hrel : RelsAt w) (hcf : cfg.delay ≤ 4 ∧ cfg.narrow ≤ 3 ∧ cfg.unroll ≤ 3) :
 Calls pr n_inv_Analyze #[.string (S src), cfgV 0 cfg thr] w fun e w' => Old w w' ∧ ∃ r ev, e = .returned (.tuple #[r, ev]) ∧ RepAt w' r (anS src cfg thr).1 ∧
  ∀ w'', Old w' w'' → ErrTy w'' → ∃ a, Calls pr n_api_Tell #[ev] w'' (TellP w'' (anS src cfg thr).2 a) := by
 obtain ⟨res, hres⟩ := readS_some src
 have hsv : ∀ pg, res = .ok pg → ∃ a, solveA (spans (if thr then stepsOf pg.nums else [])) cfg GAS pg = some a := by
  rintro pg rfl; exact solve_some _ _ (readS_good hres)
 refine (anl_ok (gas := GAS) (thr := thr) hrel hres (by decide) hcf hsv).mono ?_
 rintro e w' ⟨ho, he⟩
 refine ⟨ho, ?_⟩
 unfold anS
 rw [hres]
 match res with
 | .error (x, a) =>
   obtain ⟨v, rfl, hv⟩ := he
   exact ⟨_, v, rfl, rfl, fun w'' ho' hg => ⟨a, tell_err hg (hv.keep ho')⟩⟩
 | .ok pg =>
   obtain ⟨a, rb, sb, hs, rfl, h1, h2⟩ := he
   obtain ⟨b1, b2, b3, b4⟩ := read_bounds hres
   obtain ⟨l1, l2, l3⟩ := solve_shape (readS_good hres) hs
   simp only [hs]
   refine ⟨_, _, rfl, ⟨rb, sb, by rw [l1, l2]; rfl, by omega, by omega, l3, h1, h2⟩, fun w'' ho' hg => ⟨0, tell_nil w''⟩⟩
theorem same_nil (w : World) : Calls pr n_law_sameReports #[.agg #[.slice none 0 0, .slice none 0 0], .agg #[.slice none 0 0, .slice none 0 0]] w fun e w' => e = .returned (.bool true) ∧ Old w w' := by
 refine sh_law_sameReports_ok _ _ _ _ ?_
 unfold sh_law_sameReports
 have ho : Old w ((w.alloc (.cells #[.slice none 0 0, .slice none 0 0] 49)).alloc (.cells #[.slice none 0 0, .slice none 0 0] 49)) := by
  have := Old.refl w
  (repeat (first | with_reducible assumption | with_reducible refine Old.putL (by (first | omega | (simp only [size_alloc, size_putL]; done) | (simp only [size_alloc, size_putL]; omega))) ?_ | with_reducible refine Old.alloc ?_ _))
 have c2 : ((w.alloc (.cells #[.slice none 0 0, .slice none 0 0] 49)).alloc (.cells #[.slice none 0 0, .slice none 0 0] 49)).heap[w.heap.size]? = some (.cells #[.slice none 0 0, .slice none 0 0] 49 (0, 0)) := by (repeat (first | with_reducible assumption | with_reducible exact heap_alloc_at (by (first | omega | (simp only [size_alloc, size_putL]; done) | (simp only [size_alloc, size_putL]; omega))) | with_reducible refine (heap_alloc_ne (by (first | omega | (simp only [size_alloc, size_putL]; done) | (simp only [size_alloc, size_putL]; omega)))).trans ?_ | with_reducible refine (heap_putL_ne (by (first | omega | (simp only [size_alloc, size_putL]; done) | (simp only [size_alloc, size_putL]; omega))) _ _ _).trans ?_ | with_reducible apply putSp))
 have c3 : ((w.alloc (.cells #[.slice none 0 0, .slice none 0 0] 49)).alloc (.cells #[.slice none 0 0, .slice none 0 0] 49)).heap[w.heap.size + 1]? = some (.cells #[.slice none 0 0, .slice none 0 0] 49 (0, 0)) := by (repeat (first | with_reducible assumption | with_reducible exact heap_alloc_at (by (first | omega | (simp only [size_alloc, size_putL]; done) | (simp only [size_alloc, size_putL]; omega))) | with_reducible refine (heap_alloc_ne (by (first | omega | (simp only [size_alloc, size_putL]; done) | (simp only [size_alloc, size_putL]; omega)))).trans ?_ | with_reducible refine (heap_putL_ne (by (first | omega | (simp only [size_alloc, size_putL]; done) | (simp only [size_alloc, size_putL]; omega))) _ _ _).trans ?_ | with_reducible apply putSp))
 simp only [↓RV9, ↓RI, ↓RB, ↓RSs, ↓RT9, ↓RT7, ↓RT, ↓RG, RV, agg_cells, size_alloc]
 generalize ((w.alloc (.cells #[.slice none 0 0, .slice none 0 0] 49)).alloc (.cells #[.slice none 0 0, .slice none 0 0] 49)) = w1 at *
 have n1 : (((0 : Nat) : Int) != ((0 : Nat) : Int)) = false := rfl
 simp only [n1, c2, c3, ↓RV9, ↓RI, ↓RB, ↓RSs, ↓RT9, ↓RT7, ↓RT, ↓RG, RV, cond_true, cond_false]
 refine ⟨SrI w1 0, UnM 0, ⟨0, rfl, Nat.zero_le _, Old.refl _⟩, ?_⟩
 rintro e1 w2 ⟨k, he, hk, hoo⟩
 have c2 := hoo.heap c2
 have c3 := hoo.heap c3
 have e5 : e1 5 = vi k := by simpa using he
 rw [e5]
 simp only [c2, c3, ↓RV9, ↓RI, ↓RB, ↓RSs, ↓RT9, ↓RT7, ↓RT, ↓RG, RV]
 refine condJ (p := k < 0) (by simp only [decide_eq_decide]; omega) (fun hlt => absurd hlt (by omega)) (fun hlt => ?_)
 refine ⟨SrI w2 0, UnM 0, ⟨0, rfl, Nat.zero_le _, Old.refl _⟩, ?_⟩
 rintro e2 w3 ⟨j, he2, hj, hop⟩
 have c2 := hop.heap c2
 have c3 := hop.heap c3
 have e6 : e2 6 = vi j := by simpa using he2
 rw [e6]
 simp only [c2, c3, ↓RV9, ↓RI, ↓RB, ↓RSs, ↓RT9, ↓RT7, ↓RT, ↓RG, RV]
 refine condJ (p := j < 0) (by simp only [decide_eq_decide]; omega) (fun hjl => absurd hjl (by omega)) (fun hjl => ?_)
 first | exact ⟨rfl, (ho.trans hoo).trans hop⟩ | exact (ho.trans hoo).trans hop
theorem same_rep {w : World} {r1 r2 : Value} {x : Option (List (St Span) × List Nat)} (h1 : RepAt w r1 x) (h2 : RepAt w r2 x) :
 Calls pr n_law_sameReports #[r1, r2] w fun e w' => e = .returned (.bool true) ∧ Old w w' := by
 match x with
 | none =>
   have h1 : r1 = _ := h1
   have h2 : r2 = _ := h2
   subst h1; subst h2
   exact same_nil w
 | some (fs, ss) =>
   obtain ⟨rb, sb, rfl, b1, b2, b3, b4, b5⟩ := h1
   obtain ⟨rb', sb', rfl, -, -, -, c4, c5⟩ := h2
   exact same_ok rfl rfl b1 b2 b3 b4 c4 b5 c5
theorem anS_free {src : Bytes} {cfg cfg' : Cfg} {thr thr' : Bool} (h : ¬ HasW src w_while) : anS src cfg thr = anS src cfg' thr' := by
 unfold anS
 cases hr : readS src (steps src) with
 | none => rfl
 | some res => cases res with
   | error xa => rfl
   | ok pg =>
     have hf : FreeL true false pg.body := read_free (fun _ => h) (fun h => by cases h) hr
     simp only
     rw [straight_law (steps := if thr then stepsOf pg.nums else []) (cfg := cfg) (cfg' := ⟨0, 0, 0⟩) (g := GAS) (g' := GAS) hf, straight_law (steps := if thr' then stepsOf pg.nums else []) (cfg := cfg') (cfg' := ⟨0, 0, 0⟩) (g := GAS) (g' := GAS) hf]
theorem anS_write {src : Bytes} {pg : Prog} {cfg : Cfg} {thr : Bool} (hr : readS src (steps src) = some (.ok pg)) (hl : (writeS pg.body).length ≤ 400) : anS (writeS pg.body) cfg thr = anS src cfg thr ∧ (anS src cfg thr).2 = 0 := by
 have hw := read_write (read_canon hr) hl
 unfold anS
 rw [hw, hr]
 refine ⟨rfl, ?_⟩
 simp only
 split <;> rfl
end Go.Inv
namespace Go.Inv
open Go.Sh
theorem bd_45e (w : World) : (sBuild 45 []).run pr w = .ok (.value (cfgV 0 ⟨0, 0, 0⟩ false)) w := by kernel_rfl
theorem o_repVar {E : PanicK} {K : Value → World → Prop} {p q : Value} {w : World} (h1 : isOne p = true) (h2 : isOne q = true)
 (hK : ∀ w', Old w w' → w'.heap[w.heap.size]? = some (.cells #[p, q] 49 (0, 0)) → K (pt w.heap.size 0) w') :
 o pr E w (sAlloc 49) fun t w => o pr E w (sStore 49 t (.agg #[p, q])) fun _ w => K t w := by
 simp only [o_val (al_49 _)]
 have ho : Old w (w.alloc (.cells #[.slice none 0 0, .slice none 0 0] 49)) := (Old.refl w).alloc _
 have ha : (w.alloc (.cells #[.slice none 0 0, .slice none 0 0] 49)).heap[w.heap.size]? = some (.cells #[.slice none 0 0, .slice none 0 0] 49 (0, 0)) := heap_alloc_self _
 generalize w.alloc (.cells #[.slice none 0 0, .slice none 0 0] 49) = w1 at *
 have hrow : okRow (w1.heap[w.heap.size]?) 0 2 = true := by rw [ha]; rfl
 simp only [↓RT9, ↓RG, RV, hrow, h1, h2, Bool.and_self, List.all_cons, List.all_nil, decide_true, ifc_true, putL]
 refine hK _ ((ho.put (Nat.le_refl _)).put (Nat.le_refl _)) ?_
 rw [heap_put_self, heap_put_self, ha]; rfl
theorem o_cfgVar {E : PanicK} {K : Value → World → Prop} {d : Int} {cfg : Cfg} {thr : Bool} {w : World}
 (hK : ∀ w', Old w w' → w'.heap[w.heap.size]? = some (.cells #[vi d, vi cfg.delay, vi cfg.narrow, vi cfg.unroll, .bool thr] 45 (0, 0)) → K (pt w.heap.size 0) w') :
 o pr E w (sAlloc 45) fun t w => o pr E w (sStore 45 t (cfgV d cfg thr)) fun _ w => K t w := by
 unfold cfgV
 simp only [o_val (al_45 _)]
 have ho : Old w (w.alloc (.cells #[vi 0, vi 0, vi 0, vi 0, .bool false] 45)) := (Old.refl w).alloc _
 have ha : (w.alloc (.cells #[vi 0, vi 0, vi 0, vi 0, .bool false] 45)).heap[w.heap.size]? = some (.cells #[vi 0, vi 0, vi 0, vi 0, .bool false] 45 (0, 0)) := heap_alloc_self _
 generalize w.alloc (.cells #[vi 0, vi 0, vi 0, vi 0, .bool false] 45) = w1 at *
 have hrow : okRow (w1.heap[w.heap.size]?) 0 5 = true := by rw [ha]; rfl
 have hvi : ∀ x, isOne (vi x) = true := fun _ => rfl
 have hvb : ∀ x, isOne (.bool x) = true := fun _ => rfl
 simp only [↓RT9, ↓RG, RV, hrow, hvi, hvb, Bool.and_self, List.all_cons, List.all_nil, decide_true, ifc_true, putL]
 refine hK _ (((((ho.put (Nat.le_refl _)).put (Nat.le_refl _)).put (Nat.le_refl _)).put (Nat.le_refl _)).put (Nat.le_refl _)) ?_
 rw [heap_put_self, heap_put_self, heap_put_self, heap_put_self, heap_put_self, ha]; rfl
def StJ (wc : World) (src : Bytes) (cfg : Cfg) (thr : Bool) (bc br : Nat) (p q : Value) (vs : List Value) (w : World) : Prop :=
 Old wc w ∧ w.heap[bc]? = some (.cells #[vi 0, vi cfg.delay, vi cfg.narrow, vi cfg.unroll, .bool thr] 45 (0, 0)) ∧ w.heap[br]? = some (.cells #[p, q] 49 (0, 0)) ∧ RepAt w (.agg #[p, q]) (anS src cfg thr).1
theorem straight_ok {w : World} {src : Bytes} {a b c : Int} {t : Bool} (ht : Tabs w) : Calls pr n_law_Straight #[.string (S src), vi a, vi b, vi c, .bool t] w (TrueP w) := by
 refine sh_law_Straight_ok _ _ _ _ _ _ _ ?_
 unfold sh_law_Straight
 refine cl_of (knows_ok ht.rel) ?_
 rintro _ w1 ⟨rfl, ho1⟩
 simp only [endK, ↓RT9, ↓RT, ↓RG, RV, cond_true, cond_false, Bool.not_true]
 refine condP_split (fun _ => ⟨ho1, rfl⟩) (fun h1 => ?_)
 have hlen : src.length ≤ 1048576 := by simp at h1; omega
 refine cl_of (config_ok 0 a b c t w1) ?_
 rintro _ w2 ⟨rfl, ho2⟩
 have hcf : (⟨uns a 5, uns b 4, uns c 4⟩ : Cfg).delay ≤ 4 ∧ (⟨uns a 5, uns b 4, uns c 4⟩ : Cfg).narrow ≤ 3 ∧ (⟨uns a 5, uns b 4, uns c 4⟩ : Cfg).unroll ≤ 3 :=
  ⟨by have := uns_lt a 5 (by decide); show uns a 5 ≤ 4; omega, by have := uns_lt b 4 (by decide); show uns b 4 ≤ 3; omega, by have := uns_lt c 4 (by decide); show uns c 4 ≤ 3; omega⟩
 generalize (⟨uns a 5, uns b 4, uns c 4⟩ : Cfg) = cfg at *
 have ho2 := ho1.trans ho2
 simp only [endK]
 refine o_cfgVar ?_
 intro w3 ho3 hc3
 have ho3' := ho2.trans ho3
 generalize w2.heap.size = bc at *
 simp only [↓RT9, ↓RT, ↓RG, RV, hc3, okOf_some, row5all]
 refine cl_of (anl_rep (ht.old ho3').rel hcf) ?_
 rintro _ w4 ⟨ho4, r, ev, rfl, hr, htell⟩
 obtain ⟨p, q, rfl, hp, hq⟩ := hr.two
 simp only [endK, ↓RT9, ↓RT, ↓RG, RV]
 refine o_repVar hp hq ?_
 intro w5 ho5 hb5
 have hr5 := hr.old ho5
 have hc5 := (ho4.trans ho5).heap hc3
 have ho5' := (ho3'.trans ho4).trans ho5
 generalize w4.heap.size = br at *
 obtain ⟨at1, ht1⟩ := htell w5 ho5 (ht.old ho5').err
 refine cl_of ht1 ?_
 rintro _ w6 ⟨rfl, ho6⟩
 have hr6 := hr5.old ho6
 have hc6 := ho6.heap hc5
 have hb6 := ho6.heap hb5
 have ho6' := ho5'.trans ho6
 simp only [endK, ↓RT9, ↓RT, ↓RG, RV]
 refine ⟨StJ w6 src cfg t bc br p q, ?_, ?_⟩
 ·rintro _ w7 ⟨ho7, hc7, hb7, hr7⟩
  have ho7' := ho6'.trans ho7
  refine cl_of (print_ok (src := src) (ht.old ho7').tab (ht.old ho7').rel) ?_
  rintro e w8 h8
  obtain ⟨ho8, ev8, rfl, htell8⟩ := h8.outc
  have ho8' := ho7'.trans ho8
  simp only [endK, ↓RT9, ↓RT, ↓RG, RV]
  obtain ⟨at8, ht8⟩ := htell8 w8 (Old.refl _) (ht.old ho8').err
  refine cl_of ht8 ?_
  rintro _ w9 ⟨rfl, ho9⟩
  have ho9' := ho8'.trans ho9
  simp only [endK, ↓RT9, ↓RT, ↓RG, RV]
  refine cl_of (num_ok _ w9) ?_
  rintro _ w10 ⟨rfl, rfl⟩
  simp only [endK, ↓RT9, ↓RT, ↓RG, RV]
  by_cases h0 : (outS (printS src)).2 = 0
  ·have hb0 : (((outS (printS src)).2 : Int) != 0) = false := by rw [h0]; rfl
   simp only [hb0, ↓RT9, ↓RT, ↓RG, RV, condG_yes, cond_false]
   refine condP_split (fun _ => ⟨ho9', rfl⟩) (fun h4 => ?_)
   have hl4 : (outS (printS src)).1.length ≤ 400 := by simp at h4; omega
   obtain ⟨pg, hrd, hs⟩ := outS_ok h0
   rw [hs] at hl4 ⊢
   obtain ⟨hw1, hw2⟩ := anS_write (cfg := cfg) (thr := t) hrd hl4
   have hc10 := (ho8.trans ho9).heap hc7
   have hb10 := (ho8.trans ho9).heap hb7
   have hr10 := hr7.old (ho8.trans ho9)
   simp only [↓RT9, ↓RT, ↓RG, RV, hc10, okOf_some, row5all]
   refine cl_of (anl_rep (src := writeS pg.body) (thr := t) (ht.old ho9').rel hcf) ?_
   rw [hw1]
   rintro _ w11 ⟨ho11, r2, ev2, rfl, hr11, htell11⟩
   obtain ⟨p2, q2, rfl, hp2, hq2⟩ := hr11.two
   simp only [endK, ↓RT9, ↓RT, ↓RG, RV]
   refine o_repVar hp2 hq2 ?_
   intro w12 ho12 hb12
   have ho12' := (ho9'.trans ho11).trans ho12
   generalize w11.heap.size = br2 at *
   obtain ⟨at12, ht12⟩ := htell11 w12 ho12 (ht.old ho12').err
   refine cl_of ht12 ?_
   rintro _ w13 ⟨rfl, ho13⟩
   have hb13 := ((ho11.trans ho12).trans ho13).heap hb10
   have hb13' := ho13.heap hb12
   have hr13 := hr10.old ((ho11.trans ho12).trans ho13)
   have hr13' := hr11.old (ho12.trans ho13)
   have p1 : blkRow (w13.heap[br]?) 0 2 = some (.agg #[p, q]) := by rw [hb13]; rfl
   have p2' : blkRow (w13.heap[br2]?) 0 2 = some (.agg #[p2, q2]) := by rw [hb13']; rfl
   simp only [endK, ↓RT9, ↓RT, ↓RG, RV, p1, p2', okOf_some]
   refine cl_of (same_rep hr13 hr13') ?_
   rintro _ w14 ⟨rfl, ho14⟩
   have ho14' := (ho12'.trans ho13).trans ho14
   simp only [endK, ↓RT9, ↓RT, ↓RG, RV, condG_yes, hw2]
   refine cl_of (num_ok _ w14) ?_
   rintro _ w15 ⟨rfl, rfl⟩
   simp only [endK, ↓RT9, ↓RT, ↓RG, RV, show (((0 : Nat) : Int) == 0) = true from rfl, cond_true, condG_yes]
   refine cl_of (num_ok _ w15) ?_
   rintro _ w16 ⟨rfl, rfl⟩
   simp only [endK, ↓RT9, ↓RT, ↓RG, RV, show (((0 : Nat) : Int) == 0) = true from rfl, cond_true]
   exact ⟨ho14', rfl⟩
  ·have hb0 : (((outS (printS src)).2 : Int) != 0) = true := by simpa using h0
   simp only [hb0, ↓RT9, ↓RT, ↓RG, RV, cond_true]
   exact ⟨ho9', rfl⟩
 ·have hJ : StJ w6 src cfg t bc br p q [] w6 := ⟨Old.refl _, hc6, hb6, hr6⟩
  refine cl_of (word_ok (src := src) (wd := [119, 104, 105, 108, 101]) (by omega) (by decide) w6) ?_
  rintro _ w7 ⟨rfl, bw, rfl, hbw⟩
  simp only [endK, ↓RT9, ↓RT, ↓RG, RV]
  cases bw with
  | true =>
    simp only [Bool.not_true, cond_false, condP_false]
    exact hJ
  | false =>
    have hno : ¬ HasW src w_while := hbw rfl
    simp only [Bool.not_false, cond_true, condP_true, o_val (bd_45e _)]
    refine cl_of (anl_rep (src := src) (cfg := ⟨0, 0, 0⟩) (thr := false) (ht.old ho6').rel ⟨by decide, by decide, by decide⟩) ?_
    rw [anS_free (cfg' := cfg) (thr' := t) hno]
    rintro _ w8 ⟨ho8, r0, ev0, rfl, hr8, htell8⟩
    obtain ⟨p0, q0, rfl, hp0, hq0⟩ := hr8.two
    simp only [endK, ↓RT9, ↓RT, ↓RG, RV]
    refine o_repVar hp0 hq0 ?_
    intro w9 ho9 hb9
    have ho9' := (ho6'.trans ho8).trans ho9
    generalize w8.heap.size = br0 at *
    obtain ⟨at9, ht9⟩ := htell8 w9 ho9 (ht.old ho9').err
    refine cl_of ht9 ?_
    rintro _ w10 ⟨rfl, ho10⟩
    have ho610 := (ho8.trans ho9).trans ho10
    have hb10 := ho610.heap hb6
    have hb10' := ho10.heap hb9
    have p1 : blkRow (w10.heap[br]?) 0 2 = some (.agg #[p, q]) := by rw [hb10]; rfl
    have p2' : blkRow (w10.heap[br0]?) 0 2 = some (.agg #[p0, q0]) := by rw [hb10']; rfl
    simp only [endK, ↓RT9, ↓RT, ↓RG, RV, p1, p2', okOf_some]
    refine cl_of (same_rep (hr6.old ho610) (hr8.old (ho9.trans ho10))) ?_
    rintro _ w11 ⟨rfl, ho11⟩
    simp only [endK, ↓RT9, ↓RT, ↓RG, RV, cond_true, cond_false, Bool.not_true]
    refine cl_of (num_ok _ w11) ?_
    rintro _ w12 ⟨rfl, rfl⟩
    simp only [endK, ↓RT9, ↓RT, ↓RG, RV]
    refine cl_of (num_ok _ w12) ?_
    rintro _ w13 ⟨rfl, rfl⟩
    have hne : (((anS src cfg t).2 : Int) != ((anS src cfg t).2 : Int)) = false := by simp
    simp only [endK, ↓RT9, ↓RT, ↓RG, RV, hne, cond_true, cond_false, condP_false]
    exact ⟨ho610.trans ho11, (ho610.trans ho11).heap hc6, (ho610.trans ho11).heap hb6, hr6.old (ho610.trans ho11)⟩
end Go.Inv
