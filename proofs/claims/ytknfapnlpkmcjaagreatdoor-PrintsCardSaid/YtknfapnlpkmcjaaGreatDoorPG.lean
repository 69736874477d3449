/- A part of the proofs of the cards of this seat: whatever the input, each law returns true and leaves its arguments as they were. No condition. -/
import Derived.Test.YtknfapnlpkmcjaaGreatDoorPE
import Derived.Test.YtknfapnlpkmcjaaGreatDoorPF
import Derived.Test.YtknfapnlpkmcjaaGreatDoorPA
import Derived.Test.YtknfapnlpkmcjaaGreatDoorPB
set_option linter.all false
set_option maxRecDepth 100000
set_option maxHeartbeats 32000000
namespace Go.Inv
open Go.Sh
theorem pl83 : plainT pr 83 = true := by kernel_rfl
theorem pl90 : plainT pr 90 = true := by kernel_rfl
theorem ag147 : aggT pr 147 = some 2 := by kernel_rfl
theorem ag151 : aggT pr 151 = some 10 := by kernel_rfl
theorem ag182 : aggT pr 182 = some 2 := by kernel_rfl
theorem fo92_0 : fieldOff pr 92 0 = some 0 := by kernel_rfl
theorem fo92_1 : fieldOff pr 92 1 = some 1 := by kernel_rfl
theorem fo92_2 : fieldOff pr 92 2 = some 2 := by kernel_rfl
theorem fo92_3 : fieldOff pr 92 3 = some 3 := by kernel_rfl
theorem fo92_4 : fieldOff pr 92 4 = some 4 := by kernel_rfl
theorem fo147_0 : fieldOff pr 147 0 = some 0 := by kernel_rfl
theorem fo147_1 : fieldOff pr 147 1 = some 1 := by kernel_rfl
theorem fo149_0 : fieldOff pr 149 0 = some 0 := by kernel_rfl
theorem fo149_1 : fieldOff pr 149 1 = some 1 := by kernel_rfl
theorem fo149_2 : fieldOff pr 149 2 = some 2 := by kernel_rfl
theorem fo149_3 : fieldOff pr 149 3 = some 4 := by kernel_rfl
theorem fo149_4 : fieldOff pr 149 4 = some 5 := by kernel_rfl
theorem fo149_5 : fieldOff pr 149 5 = some 6 := by kernel_rfl
theorem fo151_0 : fieldOff pr 151 0 = some 0 := by kernel_rfl
theorem fo151_1 : fieldOff pr 151 1 = some 1 := by kernel_rfl
theorem fo151_2 : fieldOff pr 151 2 = some 2 := by kernel_rfl
theorem fo151_3 : fieldOff pr 151 3 = some 3 := by kernel_rfl
theorem fo151_4 : fieldOff pr 151 4 = some 4 := by kernel_rfl
theorem fo151_5 : fieldOff pr 151 5 = some 5 := by kernel_rfl
theorem fo151_7 : fieldOff pr 151 7 = some 7 := by kernel_rfl
theorem fo151_9 : fieldOff pr 151 9 = some 9 := by kernel_rfl
theorem fo177_2 : fieldOff pr 177 2 = some 6 := by kernel_rfl
theorem il90 : isSl pr 90 = true := by kernel_rfl
def RA1 := (And.intro (And.intro (And.intro (And.intro (And.intro (And.intro (rLoad pl3) (And.intro (raLoad pl3) (rkLoad pl3))) (And.intro (rStore pl3) (And.intro (rLoad pl4) (raLoad pl4)))) (And.intro (And.intro (rkLoad pl4) (And.intro (rStore pl4) (rLoad pl9))) (And.intro (raLoad pl9) (And.intro (rkLoad pl9) (rStore pl9))))) (And.intro (And.intro (And.intro (rLoad pl22) (And.intro (raLoad pl22) (rkLoad pl22))) (And.intro (rStore pl22) (And.intro (rLoad pl83) (raLoad pl83)))) (And.intro (And.intro (rkLoad pl83) (And.intro (rStore pl83) (rLoad pl90))) (And.intro (And.intro (raLoad pl90) (rkLoad pl90)) (And.intro (rStore pl90) (rLoadA ag147)))))) (And.intro (And.intro (And.intro (And.intro (raLoadA ag147) (And.intro (rkLoadA ag147) (rStoreA ag147))) (And.intro (rLoadA ag151) (And.intro (raLoadA ag151) (rkLoadA ag151)))) (And.intro (And.intro (rStoreA ag151) (And.intro (rLoadA ag182) (raLoadA ag182))) (And.intro (rkLoadA ag182) (And.intro (rStoreA ag182) (rFA fo92_0))))) (And.intro (And.intro (And.intro (rzFA fo92_0) (And.intro (rFA fo92_1) (rzFA fo92_1))) (And.intro (rFA fo92_2) (And.intro (rzFA fo92_2) (rFA fo92_3)))) (And.intro (And.intro (rzFA fo92_3) (And.intro (rFA fo92_4) (rzFA fo92_4))) (And.intro (And.intro (rFA fo147_0) (rzFA fo147_0)) (And.intro (rFA fo147_1) (rzFA fo147_1))))))) (And.intro (And.intro (And.intro (And.intro (And.intro (rFA fo149_0) (And.intro (rzFA fo149_0) (rFA fo149_1))) (And.intro (rzFA fo149_1) (And.intro (rFA fo149_2) (rzFA fo149_2)))) (And.intro (And.intro (rFA fo149_3) (And.intro (rzFA fo149_3) (rFA fo149_4))) (And.intro (rzFA fo149_4) (And.intro (rFA fo149_5) (rzFA fo149_5))))) (And.intro (And.intro (And.intro (rFA fo151_0) (And.intro (rzFA fo151_0) (rFA fo151_1))) (And.intro (rzFA fo151_1) (And.intro (rFA fo151_2) (rzFA fo151_2)))) (And.intro (And.intro (rFA fo151_3) (And.intro (rzFA fo151_3) (rFA fo151_4))) (And.intro (And.intro (rzFA fo151_4) (rFA fo151_5)) (And.intro (rzFA fo151_5) (rFA fo151_7)))))) (And.intro (And.intro (And.intro (And.intro (rzFA fo151_7) (And.intro (rFA fo151_9) (rzFA fo151_9))) (And.intro (rFA fo177_2) (And.intro (rzFA fo177_2) (rIdxS is9)))) (And.intro (And.intro (rzIdxS is9) (And.intro (rLenS is9) (rzLenS is9))) (And.intro (rCut is9) (And.intro (rzCut is9) (rCutL is9))))) (And.intro (And.intro (And.intro (rzCutL is9) (And.intro (rLenL il22) (rzLenL il22))) (And.intro (rLenL il90) (And.intro (rzLenL il90) (rConv ik3 ik3)))) (And.intro (And.intro (rzConv ik3 ik3) (And.intro (rConv ik3 ik5) (rzConv ik3 ik5))) (And.intro (And.intro (rConv ik5 ik3) (rzConv ik5 ik3)) (And.intro (rConv ik5 ik5) (rzConv ik5 ik5))))))))
def sh_ref_Read (K : Value → World → Prop) (E : PanicK) (a0 : Value) (w : World) : Prop :=
 o pr E w (sB .len [9] 3 [a0]) fun t7 w =>
 o pr E w (sBinC .gtr 3 t7 (Value.int IntKind.i64 400) 3) fun t8 w =>
 condP t8 (K (.tuple #[(Value.pointer none), (Value.int IntKind.i64 1), (Value.int IntKind.i64 0)]) w)
  (o pr E w (sBuild 92 []) fun t10 w =>
 o pr E w (sBox 92 t10) fun t11 w =>
 o pr E w (sBuild 149 [(0, a0), (3, t11)]) fun t12 w =>
 o pr E w (sBox 149 t12) fun t13 w =>
 cl pr E w n_ref_Reader_step #[t13] fun _ w =>
 ∃ j1 : List Value → World → Prop, (∀ (e1 : Nat → Value) w, j1 [] w →
 o pr E w (sNil t13) fun t42 w =>
 o pr E w (sFA 149 t42 5) fun t43 w =>
 o pr E w (sLoad 3 t43) fun t44 w =>
 o pr E w (sBinC .neq 3 t44 (Value.int IntKind.i64 0) 3) fun t45 w =>
 condP t45 ((fun w =>
 oz pr (sNil t13) fun t47 =>
 oz pr (sFA 149 t47 5) fun t48 =>
 oa pr w (sLoad 3 t48) fun t49 =>
 oz pr (sNil t13) fun t51 =>
 oz pr (sFA 149 t51 2) fun t52 =>
 oz pr (sFA 147 t52 0) fun t53 =>
 oa pr w (sLoad 3 t53) fun t54 =>
 K (.tuple #[(Value.pointer none), t49, t54]) w) (dr w))
  ((fun w =>
 oz pr (sNil t13) fun t56 =>
 oz pr (sFA 149 t56 3) fun t57 =>
 oa pr w (sLoad 83 t57) fun t58 =>
 oz pr (sNil t13) fun t60 =>
 oz pr (sFA 149 t60 3) fun t61 =>
 oa pr w (sLoad 83 t61) fun t62 =>
 oz pr (sNil t62) fun t63 =>
 oz pr (sFA 92 t63 2) fun t64 =>
 oa pr w (sLoad 3 t64) fun t65 =>
 oz pr (sBinC .add 3 t65 (Value.int IntKind.i64 1) 3) fun t66 =>
 oz pr (sNil t58) fun t67 =>
 oz pr (sFA 92 t67 2) fun t68 =>
 o pr E w (sStore 3 t68 t66) fun _ w =>
 o pr E w (sNil t13) fun t70 w =>
 o pr E w (sFA 149 t70 3) fun t71 w =>
 o pr E w (sLoad 83 t71) fun t72 w =>
 K (.tuple #[t72, (Value.int IntKind.i64 0), (Value.int IntKind.i64 0)]) w) (dr w))) ∧
 (fun w =>
 oz pr (sNil t13) fun t17 =>
 oz pr (sFA 149 t17 3) fun t18 =>
 oa pr w (sLoad 83 t18) fun t19 =>
 cl pr E w n_ref_Reader_statements #[t13] fun t21 w =>
 rk pr w (sLoad 83 t18) t19 ∧
 oz pr (sNil t19) fun t22 =>
 oz pr (sFA 92 t22 1) fun t23 =>
 o pr E w (sStore 3 t23 t21) fun _ w =>
 (fun (k6 : Value → World → Prop) =>
 o pr E w (sNil t13) fun t25 w =>
 o pr E w (sFA 149 t25 5) fun t26 w =>
 o pr E w (sLoad 3 t26) fun t27 w =>
 o pr E w (sBinC .eql 3 t27 (Value.int IntKind.i64 0) 3) fun t28 w =>
 condG t28 true (o pr E w (sNil t13) fun t31 w =>
 o pr E w (sFA 149 t31 2) fun t32 w =>
 o pr E w (sFA 147 t32 0) fun t33 w =>
 o pr E w (sLoad 3 t33) fun t34 w =>
 o pr E w (sB .len [9] 3 [a0]) fun t36 w =>
 o pr E w (sBin .lss 3 t34 t36 3) fun t37 w =>
 o pr E w (sPick t28 t37 (Value.bool false)) fun t38_1 w =>
 k6 t38_1 w)
  (o pr E w (sPick t28 undef (Value.bool false)) fun t38_2 w =>
 k6 t38_2 w))
 (fun t38 w =>
 condP t38 (cl pr E w n_ref_Reader_wrong #[t13, (Value.int IntKind.i64 2)] fun _ w =>
 j1 [] w)
  (j1 [] w))) (dr w))
def lv_ref_Read : Lives := [(1, [0]), (2, [0, 8]), (3, [0]), (4, [0, 5]), (5, [0, 5]), (6, [0, 5]), (7, [5, 38]), (8, [5]), (9, [5, 45]), (10, [5]), (11, [5])]
theorem sh_ref_Read_ok (a0 : Value) (w : World) (R : Ending → World → Prop)
 (h : sh_ref_Read (fun v w => R (.returned v) w) (fun c w => R (.panicked c) w) a0 w) : Calls pr n_ref_Read #[a0] w R :=
 calls_of_W (A := lv_ref_Read) enters mixed Go.Proofs.Tryz.func36 (by kernel_rfl) (by kernel_rfl) (by kernel_rfl)
  (Eq.mp (by kernel_rfl) h)
def sh_ref_Reader_step (K : Value → World → Prop) (E : PanicK) (a0 : Value) (w : World) : Prop :=
 o pr E w (sNil a0) fun t6 w =>
 o pr E w (sFA 149 t6 1) fun t7 w =>
 o pr E w (sLoad 3 t7) fun t8 w =>
 ∃ (I1 : List Value → World → Prop) (m1 : List Value → World → Nat), I1 [t8] w ∧
 ∀ (e1 : Nat → Value) w1, I1 [e1 2] w1 → (fun w =>
 (fun (k1 : Value → World → Prop) =>
 o pr E w (sNil a0) fun t11 w =>
 o pr E w (sFA 149 t11 0) fun t12 w =>
 o pr E w (sLoad 9 t12) fun t13 w =>
 o pr E w (sB .len [9] 3 [t13]) fun t14 w =>
 o pr E w (sBin .lss 3 (e1 2) t14 3) fun t15 w =>
 condG t15 true (o pr E w (sNil a0) fun t18 w =>
 o pr E w (sFA 149 t18 0) fun t19 w =>
 o pr E w (sLoad 9 t19) fun t20 w =>
 o pr E w (sIdx 9 t20 (e1 2)) fun t22 w =>
 o pr E w (sBinC .eql 5 t22 (Value.int IntKind.u8 32) 5) fun t23 w =>
 condG t23 false (o pr E w (sNil a0) fun t26 w =>
 o pr E w (sFA 149 t26 0) fun t27 w =>
 o pr E w (sLoad 9 t27) fun t28 w =>
 o pr E w (sIdx 9 t28 (e1 2)) fun t30 w =>
 o pr E w (sBinC .eql 5 t30 (Value.int IntKind.u8 10) 5) fun t31 w =>
 o pr E w (sPick t23 (Value.bool true) t31) fun t32 w =>
 o pr E w (sPick t15 t32 (Value.bool false)) fun t33_1 w =>
 k1 t33_1 w)
  (o pr E w (sPick t23 (Value.bool true) undef) fun t32_1 w =>
 o pr E w (sPick t15 t32_1 (Value.bool false)) fun t33_2 w =>
 k1 t33_2 w))
  (condG undef false (o pr E w (sNil a0) fun t26_1 w =>
 o pr E w (sFA 149 t26_1 0) fun t27_1 w =>
 o pr E w (sLoad 9 t27_1) fun t28_1 w =>
 o pr E w (sIdx 9 t28_1 (e1 2)) fun t30_1 w =>
 o pr E w (sBinC .eql 5 t30_1 (Value.int IntKind.u8 10) 5) fun _ w =>
 o pr E w (sPick t15 undef (Value.bool false)) fun t33_3 w =>
 k1 t33_3 w)
  (o pr E w (sPick t15 undef (Value.bool false)) fun t33_4 w =>
 k1 t33_4 w)))
 (fun t33 w =>
 condP t33 (o pr E w (sBinC .add 3 (e1 2) (Value.int IntKind.i64 1) 3) fun t35 w =>
 I1 [t35] w ∧ m1 [t35] w < m1 [e1 2] w1)
  (∃ j2 : List Value → World → Prop, (∀ (e2 : Nat → Value) w, j2 [e2 3] w →
 o pr E w (sNil a0) fun t106 w =>
 o pr E w (sFA 149 t106 0) fun t107 w =>
 o pr E w (sLoad 9 t107) fun t108 w =>
 o pr E w (sSlice 9 t108 (some (e1 2)) (some (e2 3)) none) fun t111 w =>
 o pr E w (sBuild 147 [(0, (e1 2)), (1, t111)]) fun t112 w =>
 o pr E w (sNil a0) fun t113 w =>
 o pr E w (sFA 149 t113 2) fun t114 w =>
 o pr E w (sStore 147 t114 t112) fun _ w =>
 o pr E w (sNil a0) fun t117 w =>
 o pr E w (sFA 149 t117 1) fun t118 w =>
 o pr E w (sStore 3 t118 (e2 3)) fun _ w =>
 K (.tuple #[]) w) ∧
 o pr E w (sNil a0) fun t39 w =>
 o pr E w (sFA 149 t39 0) fun t40 w =>
 o pr E w (sLoad 9 t40) fun t41 w =>
 o pr E w (sB .len [9] 3 [t41]) fun t42 w =>
 o pr E w (sBin .lss 3 (e1 2) t42 3) fun t43 w =>
 condP t43 (o pr E w (sNil a0) fun t45 w =>
 o pr E w (sFA 149 t45 0) fun t46 w =>
 o pr E w (sLoad 9 t46) fun t47 w =>
 o pr E w (sIdx 9 t47 (e1 2)) fun t49 w =>
 cl pr E w n_ref_isLetter #[t49] fun t50 w =>
 condP t50 (∃ (I3 : List Value → World → Prop) (m3 : List Value → World → Nat), I3 [(e1 2)] w ∧
 ∀ (e3 : Nat → Value) w3, I3 [e3 3] w3 → (fun w =>
 (fun (k6 : Value → World → Prop) =>
 o pr E w (sNil a0) fun t53 w =>
 o pr E w (sFA 149 t53 0) fun t54 w =>
 o pr E w (sLoad 9 t54) fun t55 w =>
 o pr E w (sB .len [9] 3 [t55]) fun t56 w =>
 o pr E w (sBin .lss 3 (e3 3) t56 3) fun t57 w =>
 condG t57 true (o pr E w (sNil a0) fun t60 w =>
 o pr E w (sFA 149 t60 0) fun t61 w =>
 o pr E w (sLoad 9 t61) fun t62 w =>
 o pr E w (sIdx 9 t62 (e3 3)) fun t64 w =>
 cl pr E w n_ref_isLetter #[t64] fun t65 w =>
 o pr E w (sPick t57 t65 (Value.bool false)) fun t66_1 w =>
 k6 t66_1 w)
  (o pr E w (sPick t57 undef (Value.bool false)) fun t66_2 w =>
 k6 t66_2 w))
 (fun t66 w =>
 condP t66 (o pr E w (sBinC .add 3 (e3 3) (Value.int IntKind.i64 1) 3) fun t68 w =>
 I3 [t68] w ∧ m3 [t68] w < m3 [e3 3] w3)
  (j2 [(e3 3)] w))) w3)
  (o pr E w (sNil a0) fun t70 w =>
 o pr E w (sFA 149 t70 0) fun t71 w =>
 o pr E w (sLoad 9 t71) fun t72 w =>
 o pr E w (sIdx 9 t72 (e1 2)) fun t74 w =>
 cl pr E w n_ref_isDigit #[t74] fun t75 w =>
 condP t75 (∃ (I4 : List Value → World → Prop) (m4 : List Value → World → Nat), I4 [(e1 2)] w ∧
 ∀ (e4 : Nat → Value) w4, I4 [e4 3] w4 → (fun w =>
 (fun (k9 : Value → World → Prop) =>
 o pr E w (sNil a0) fun t78 w =>
 o pr E w (sFA 149 t78 0) fun t79 w =>
 o pr E w (sLoad 9 t79) fun t80 w =>
 o pr E w (sB .len [9] 3 [t80]) fun t81 w =>
 o pr E w (sBin .lss 3 (e4 3) t81 3) fun t82 w =>
 condG t82 true (o pr E w (sNil a0) fun t85 w =>
 o pr E w (sFA 149 t85 0) fun t86 w =>
 o pr E w (sLoad 9 t86) fun t87 w =>
 o pr E w (sIdx 9 t87 (e4 3)) fun t89 w =>
 cl pr E w n_ref_isDigit #[t89] fun t90 w =>
 o pr E w (sPick t82 t90 (Value.bool false)) fun t91_1 w =>
 k9 t91_1 w)
  (o pr E w (sPick t82 undef (Value.bool false)) fun t91_2 w =>
 k9 t91_2 w))
 (fun t91 w =>
 condP t91 (o pr E w (sBinC .add 3 (e4 3) (Value.int IntKind.i64 1) 3) fun t93 w =>
 I4 [t93] w ∧ m4 [t93] w < m4 [e4 3] w4)
  (j2 [(e4 3)] w))) w4)
  (o pr E w (sNil a0) fun t95 w =>
 o pr E w (sFA 149 t95 0) fun t96 w =>
 o pr E w (sLoad 9 t96) fun t97 w =>
 cl pr E w n_ref_sign #[t97, (e1 2)] fun t99 w =>
 o pr E w (sBin .add 3 (e1 2) t99 3) fun t102 w =>
 j2 [t102] w)))
  (j2 [(e1 2)] w)))) w1
def lv_ref_Reader_step : Lives := [(1, [0, 2]), (2, [0, 2]), (3, [0, 2]), (4, [0, 2, 3]), (5, [0, 2, 3, 43]), (6, [0, 2, 3, 50]), (7, [0, 2, 3]), (9, [0, 2, 3, 75]), (10, [0, 2, 3]), (12, [0, 2, 4]), (13, [0, 2, 3]), (14, [0, 3])]
theorem sh_ref_Reader_step_ok (a0 : Value) (w : World) (R : Ending → World → Prop)
 (h : sh_ref_Reader_step (fun v w => R (.returned v) w) (fun c w => R (.panicked c) w) a0 w) : Calls pr n_ref_Reader_step #[a0] w R :=
 calls_of_W (A := lv_ref_Reader_step) enters mixed Go.Proofs.Tryz.func55 (by kernel_rfl) (by kernel_rfl) (by kernel_rfl)
  (Eq.mp (by kernel_rfl) h)
def sh_ref_Reader_statements (K : Value → World → Prop) (E : PanicK) (a0 : Value) (w : World) : Prop :=
 ∃ j1 : List Value → World → Prop, (∀ (e1 : Nat → Value) w, j1 [e1 3] w →
 K (e1 3) w) ∧
 ∃ (I2 : List Value → World → Prop) (m2 : List Value → World → Nat), I2 [(Value.int IntKind.i64 (-1)), (Value.int IntKind.i64 (-1))] w ∧
 ∀ (e2 : Nat → Value) w2, I2 [e2 3, e2 4] w2 → (fun w =>
 o pr E w (sNil a0) fun t8 w =>
 o pr E w (sFA 149 t8 5) fun t9 w =>
 o pr E w (sLoad 3 t9) fun t10 w =>
 o pr E w (sBinC .eql 3 t10 (Value.int IntKind.i64 0) 3) fun t11 w =>
 condP t11 (o pr E w (sNil a0) fun t13 w =>
 o pr E w (sFA 149 t13 2) fun t14 w =>
 o pr E w (sFA 147 t14 1) fun t15 w =>
 o pr E w (sLoad 9 t15) fun t16 w =>
 cl pr E w n_ref_begins #[t16] fun t17 w =>
 o pr E w (sUn .not 4 t17) fun t19 w =>
 condP t19 (j1 [(e2 3)] w)
  (∃ j3 : List Value → World → Prop, (∀ (e3 : Nat → Value) w, j3 [e3 3, e3 6] w →
 I2 [(e3 3), (e3 6)] w ∧ m2 [(e3 3), (e3 6)] w < m2 [e2 3, e2 4] w2) ∧
 cl pr E w n_ref_Reader_statement #[a0] fun t21 w =>
 o pr E w (sBinC .lss 3 (e2 3) (Value.int IntKind.i64 0) 3) fun t23 w =>
 condP t23 (j3 [t21, t21] w)
  (o pr E w (sNil a0) fun t26 w =>
 o pr E w (sFA 149 t26 3) fun t27 w =>
 o pr E w (sLoad 83 t27) fun t28 w =>
 o pr E w (sNil t28) fun t29 w =>
 o pr E w (sFA 92 t29 0) fun t30 w =>
 o pr E w (sLoad 90 t30) fun t31 w =>
 o pr E w (sIA 90 t31 (e2 4)) fun t34 w =>
 o pr E w (sFA 151 t34 5) fun t35 w =>
 o pr E w (sStore 3 t35 t21) fun _ w =>
 j3 [(e2 3), t21] w)))
  (j1 [(e2 3)] w)) w2
def lv_ref_Reader_statements : Lives := [(1, [0]), (2, [0, 3]), (3, [0, 3, 4]), (4, [0, 3, 4]), (5, [0, 3, 4, 5]), (6, [0, 3, 4]), (7, [0, 3, 4, 6]), (8, [0, 3, 4, 6, 23]), (10, [0, 3, 6]), (11, [3])]
theorem sh_ref_Reader_statements_ok (a0 : Value) (w : World) (R : Ending → World → Prop)
 (h : sh_ref_Reader_statements (fun v w => R (.returned v) w) (fun c w => R (.panicked c) w) a0 w) : Calls pr n_ref_Reader_statements #[a0] w R :=
 calls_of_W (A := lv_ref_Reader_statements) enters mixed Go.Proofs.Tryz.func56 (by kernel_rfl) (by kernel_rfl) (by kernel_rfl)
  (Eq.mp (by kernel_rfl) h)
def sh_ref_Reader_wrong (K : Value → World → Prop) (E : PanicK) (a0 a1 : Value) (w : World) : Prop :=
 o pr E w (sNil a0) fun t5 w =>
 o pr E w (sFA 149 t5 5) fun t6 w =>
 o pr E w (sLoad 3 t6) fun t7 w =>
 o pr E w (sBinC .eql 3 t7 (Value.int IntKind.i64 0) 3) fun t8 w =>
 condP t8 (o pr E w (sNil a0) fun t11 w =>
 o pr E w (sFA 149 t11 5) fun t12 w =>
 o pr E w (sStore 3 t12 a1) fun _ w =>
 K (.tuple #[]) w)
  (K (.tuple #[]) w)
def lv_ref_Reader_wrong : Lives := [(1, [0, 1, 8])]
theorem sh_ref_Reader_wrong_ok (a0 a1 : Value) (w : World) (R : Ending → World → Prop)
 (h : sh_ref_Reader_wrong (fun v w => R (.returned v) w) (fun c w => R (.panicked c) w) a0 a1 w) : Calls pr n_ref_Reader_wrong #[a0, a1] w R :=
 calls_of_W (A := lv_ref_Reader_wrong) enters mixed Go.Proofs.Tryz.func57 (by kernel_rfl) (by kernel_rfl) (by kernel_rfl)
  (Eq.mp (by kernel_rfl) h)
def sh_ref_isLetter (K : Value → World → Prop) (E : PanicK) (a0 : Value) (w : World) : Prop :=
 (fun (k1 : Value → World → Prop) =>
 o pr E w (sBinC .geq 5 a0 (Value.int IntKind.u8 97) 5) fun t4 w =>
 condG t4 true (o pr E w (sBinC .leq 5 a0 (Value.int IntKind.u8 122) 5) fun t7 w =>
 o pr E w (sPick t4 t7 (Value.bool false)) fun t8 w =>
 k1 t8 w)
  (o pr E w (sPick t4 undef (Value.bool false)) fun t8_1 w =>
 k1 t8_1 w))
 (fun t2 w =>
 K t2 w)
def lv_ref_isLetter : Lives := [(1, [0])]
theorem sh_ref_isLetter_ok (a0 : Value) (w : World) (R : Ending → World → Prop)
 (h : sh_ref_isLetter (fun v w => R (.returned v) w) (fun c w => R (.panicked c) w) a0 w) : Calls pr n_ref_isLetter #[a0] w R :=
 calls_of_W (A := lv_ref_isLetter) enters mixed Go.Proofs.Tryz.func85 (by kernel_rfl) (by kernel_rfl) (by kernel_rfl)
  (Eq.mp (by kernel_rfl) h)
def sh_ref_isDigit (K : Value → World → Prop) (E : PanicK) (a0 : Value) (w : World) : Prop :=
 (fun (k1 : Value → World → Prop) =>
 o pr E w (sBinC .geq 5 a0 (Value.int IntKind.u8 48) 5) fun t4 w =>
 condG t4 true (o pr E w (sBinC .leq 5 a0 (Value.int IntKind.u8 57) 5) fun t7 w =>
 o pr E w (sPick t4 t7 (Value.bool false)) fun t8 w =>
 k1 t8 w)
  (o pr E w (sPick t4 undef (Value.bool false)) fun t8_1 w =>
 k1 t8_1 w))
 (fun t2 w =>
 K t2 w)
def lv_ref_isDigit : Lives := [(1, [0])]
theorem sh_ref_isDigit_ok (a0 : Value) (w : World) (R : Ending → World → Prop)
 (h : sh_ref_isDigit (fun v w => R (.returned v) w) (fun c w => R (.panicked c) w) a0 w) : Calls pr n_ref_isDigit #[a0] w R :=
 calls_of_W (A := lv_ref_isDigit) enters mixed Go.Proofs.Tryz.func86 (by kernel_rfl) (by kernel_rfl) (by kernel_rfl)
  (Eq.mp (by kernel_rfl) h)
def sh_ref_sign (K : Value → World → Prop) (E : PanicK) (a0 a1 : Value) (w : World) : Prop :=
 (fun (k1 : Value → World → Prop) =>
 o pr E w (sBinC .add 3 a1 (Value.int IntKind.i64 1) 3) fun t8 w =>
 o pr E w (sB .len [9] 3 [a0]) fun t10 w =>
 o pr E w (sBin .lss 3 t8 t10 3) fun t11 w =>
 condG t11 true (o pr E w (sBinC .add 3 a1 (Value.int IntKind.i64 1) 3) fun t15 w =>
 o pr E w (sIdx 9 a0 t15) fun t16 w =>
 o pr E w (sBinC .eql 5 t16 (Value.int IntKind.u8 61) 5) fun t17 w =>
 o pr E w (sPick t11 t17 (Value.bool false)) fun t18 w =>
 condG t18 true (o pr E w (sIdx 9 a0 a1) fun t22 w =>
 o pr E w (sBinC .eql 5 t22 (Value.int IntKind.u8 60) 5) fun t23 w =>
 condG t23 false (o pr E w (sIdx 9 a0 a1) fun t27 w =>
 o pr E w (sBinC .eql 5 t27 (Value.int IntKind.u8 62) 5) fun t28 w =>
 o pr E w (sPick t23 (Value.bool true) t28) fun t29 w =>
 condG t29 false (o pr E w (sIdx 9 a0 a1) fun t33 w =>
 o pr E w (sBinC .eql 5 t33 (Value.int IntKind.u8 61) 5) fun t34 w =>
 o pr E w (sPick t29 (Value.bool true) t34) fun t35 w =>
 condG t35 false (o pr E w (sIdx 9 a0 a1) fun t39 w =>
 o pr E w (sBinC .eql 5 t39 (Value.int IntKind.u8 33) 5) fun t40 w =>
 o pr E w (sPick t35 (Value.bool true) t40) fun t41 w =>
 o pr E w (sPick t18 t41 (Value.bool false)) fun t42_1 w =>
 k1 t42_1 w)
  (o pr E w (sPick t35 (Value.bool true) undef) fun t41_1 w =>
 o pr E w (sPick t18 t41_1 (Value.bool false)) fun t42_2 w =>
 k1 t42_2 w))
  (o pr E w (sPick t29 (Value.bool true) undef) fun t35_1 w =>
 condG t35_1 false (o pr E w (sIdx 9 a0 a1) fun t39_1 w =>
 o pr E w (sBinC .eql 5 t39_1 (Value.int IntKind.u8 33) 5) fun t40_1 w =>
 o pr E w (sPick t35_1 (Value.bool true) t40_1) fun t41_2 w =>
 o pr E w (sPick t18 t41_2 (Value.bool false)) fun t42_3 w =>
 k1 t42_3 w)
  (o pr E w (sPick t35_1 (Value.bool true) undef) fun t41_3 w =>
 o pr E w (sPick t18 t41_3 (Value.bool false)) fun t42_4 w =>
 k1 t42_4 w)))
  (o pr E w (sPick t23 (Value.bool true) undef) fun t29_1 w =>
 condG t29_1 false (o pr E w (sIdx 9 a0 a1) fun t33_1 w =>
 o pr E w (sBinC .eql 5 t33_1 (Value.int IntKind.u8 61) 5) fun t34_1 w =>
 o pr E w (sPick t29_1 (Value.bool true) t34_1) fun t35_2 w =>
 condG t35_2 false (o pr E w (sIdx 9 a0 a1) fun t39_2 w =>
 o pr E w (sBinC .eql 5 t39_2 (Value.int IntKind.u8 33) 5) fun t40_2 w =>
 o pr E w (sPick t35_2 (Value.bool true) t40_2) fun t41_4 w =>
 o pr E w (sPick t18 t41_4 (Value.bool false)) fun t42_5 w =>
 k1 t42_5 w)
  (o pr E w (sPick t35_2 (Value.bool true) undef) fun t41_5 w =>
 o pr E w (sPick t18 t41_5 (Value.bool false)) fun t42_6 w =>
 k1 t42_6 w))
  (o pr E w (sPick t29_1 (Value.bool true) undef) fun t35_3 w =>
 condG t35_3 false (o pr E w (sIdx 9 a0 a1) fun t39_3 w =>
 o pr E w (sBinC .eql 5 t39_3 (Value.int IntKind.u8 33) 5) fun t40_3 w =>
 o pr E w (sPick t35_3 (Value.bool true) t40_3) fun t41_6 w =>
 o pr E w (sPick t18 t41_6 (Value.bool false)) fun t42_7 w =>
 k1 t42_7 w)
  (o pr E w (sPick t35_3 (Value.bool true) undef) fun t41_7 w =>
 o pr E w (sPick t18 t41_7 (Value.bool false)) fun t42_8 w =>
 k1 t42_8 w))))
  (condG undef false (o pr E w (sIdx 9 a0 a1) fun t27_1 w =>
 o pr E w (sBinC .eql 5 t27_1 (Value.int IntKind.u8 62) 5) fun _ w =>
 condG undef false (o pr E w (sIdx 9 a0 a1) fun t33_2 w =>
 o pr E w (sBinC .eql 5 t33_2 (Value.int IntKind.u8 61) 5) fun _ w =>
 condG undef false (o pr E w (sIdx 9 a0 a1) fun t39_4 w =>
 o pr E w (sBinC .eql 5 t39_4 (Value.int IntKind.u8 33) 5) fun _ w =>
 o pr E w (sPick t18 undef (Value.bool false)) fun t42_9 w =>
 k1 t42_9 w)
  (o pr E w (sPick t18 undef (Value.bool false)) fun t42_10 w =>
 k1 t42_10 w))
  (condG undef false (o pr E w (sIdx 9 a0 a1) fun t39_5 w =>
 o pr E w (sBinC .eql 5 t39_5 (Value.int IntKind.u8 33) 5) fun _ w =>
 o pr E w (sPick t18 undef (Value.bool false)) fun t42_11 w =>
 k1 t42_11 w)
  (o pr E w (sPick t18 undef (Value.bool false)) fun t42_12 w =>
 k1 t42_12 w)))
  (condG undef false (o pr E w (sIdx 9 a0 a1) fun t33_3 w =>
 o pr E w (sBinC .eql 5 t33_3 (Value.int IntKind.u8 61) 5) fun _ w =>
 condG undef false (o pr E w (sIdx 9 a0 a1) fun t39_6 w =>
 o pr E w (sBinC .eql 5 t39_6 (Value.int IntKind.u8 33) 5) fun _ w =>
 o pr E w (sPick t18 undef (Value.bool false)) fun t42_13 w =>
 k1 t42_13 w)
  (o pr E w (sPick t18 undef (Value.bool false)) fun t42_14 w =>
 k1 t42_14 w))
  (condG undef false (o pr E w (sIdx 9 a0 a1) fun t39_7 w =>
 o pr E w (sBinC .eql 5 t39_7 (Value.int IntKind.u8 33) 5) fun _ w =>
 o pr E w (sPick t18 undef (Value.bool false)) fun t42_15 w =>
 k1 t42_15 w)
  (o pr E w (sPick t18 undef (Value.bool false)) fun t42_16 w =>
 k1 t42_16 w)))))
  (o pr E w (sPick t11 undef (Value.bool false)) fun t18_1 w =>
 condG t18_1 true (o pr E w (sIdx 9 a0 a1) fun t22_1 w =>
 o pr E w (sBinC .eql 5 t22_1 (Value.int IntKind.u8 60) 5) fun t23_1 w =>
 condG t23_1 false (o pr E w (sIdx 9 a0 a1) fun t27_2 w =>
 o pr E w (sBinC .eql 5 t27_2 (Value.int IntKind.u8 62) 5) fun t28_2 w =>
 o pr E w (sPick t23_1 (Value.bool true) t28_2) fun t29_2 w =>
 condG t29_2 false (o pr E w (sIdx 9 a0 a1) fun t33_4 w =>
 o pr E w (sBinC .eql 5 t33_4 (Value.int IntKind.u8 61) 5) fun t34_4 w =>
 o pr E w (sPick t29_2 (Value.bool true) t34_4) fun t35_4 w =>
 condG t35_4 false (o pr E w (sIdx 9 a0 a1) fun t39_8 w =>
 o pr E w (sBinC .eql 5 t39_8 (Value.int IntKind.u8 33) 5) fun t40_8 w =>
 o pr E w (sPick t35_4 (Value.bool true) t40_8) fun t41_8 w =>
 o pr E w (sPick t18_1 t41_8 (Value.bool false)) fun t42_17 w =>
 k1 t42_17 w)
  (o pr E w (sPick t35_4 (Value.bool true) undef) fun t41_9 w =>
 o pr E w (sPick t18_1 t41_9 (Value.bool false)) fun t42_18 w =>
 k1 t42_18 w))
  (o pr E w (sPick t29_2 (Value.bool true) undef) fun t35_5 w =>
 condG t35_5 false (o pr E w (sIdx 9 a0 a1) fun t39_9 w =>
 o pr E w (sBinC .eql 5 t39_9 (Value.int IntKind.u8 33) 5) fun t40_9 w =>
 o pr E w (sPick t35_5 (Value.bool true) t40_9) fun t41_10 w =>
 o pr E w (sPick t18_1 t41_10 (Value.bool false)) fun t42_19 w =>
 k1 t42_19 w)
  (o pr E w (sPick t35_5 (Value.bool true) undef) fun t41_11 w =>
 o pr E w (sPick t18_1 t41_11 (Value.bool false)) fun t42_20 w =>
 k1 t42_20 w)))
  (o pr E w (sPick t23_1 (Value.bool true) undef) fun t29_3 w =>
 condG t29_3 false (o pr E w (sIdx 9 a0 a1) fun t33_5 w =>
 o pr E w (sBinC .eql 5 t33_5 (Value.int IntKind.u8 61) 5) fun t34_5 w =>
 o pr E w (sPick t29_3 (Value.bool true) t34_5) fun t35_6 w =>
 condG t35_6 false (o pr E w (sIdx 9 a0 a1) fun t39_10 w =>
 o pr E w (sBinC .eql 5 t39_10 (Value.int IntKind.u8 33) 5) fun t40_10 w =>
 o pr E w (sPick t35_6 (Value.bool true) t40_10) fun t41_12 w =>
 o pr E w (sPick t18_1 t41_12 (Value.bool false)) fun t42_21 w =>
 k1 t42_21 w)
  (o pr E w (sPick t35_6 (Value.bool true) undef) fun t41_13 w =>
 o pr E w (sPick t18_1 t41_13 (Value.bool false)) fun t42_22 w =>
 k1 t42_22 w))
  (o pr E w (sPick t29_3 (Value.bool true) undef) fun t35_7 w =>
 condG t35_7 false (o pr E w (sIdx 9 a0 a1) fun t39_11 w =>
 o pr E w (sBinC .eql 5 t39_11 (Value.int IntKind.u8 33) 5) fun t40_11 w =>
 o pr E w (sPick t35_7 (Value.bool true) t40_11) fun t41_14 w =>
 o pr E w (sPick t18_1 t41_14 (Value.bool false)) fun t42_23 w =>
 k1 t42_23 w)
  (o pr E w (sPick t35_7 (Value.bool true) undef) fun t41_15 w =>
 o pr E w (sPick t18_1 t41_15 (Value.bool false)) fun t42_24 w =>
 k1 t42_24 w))))
  (condG undef false (o pr E w (sIdx 9 a0 a1) fun t27_3 w =>
 o pr E w (sBinC .eql 5 t27_3 (Value.int IntKind.u8 62) 5) fun _ w =>
 condG undef false (o pr E w (sIdx 9 a0 a1) fun t33_6 w =>
 o pr E w (sBinC .eql 5 t33_6 (Value.int IntKind.u8 61) 5) fun _ w =>
 condG undef false (o pr E w (sIdx 9 a0 a1) fun t39_12 w =>
 o pr E w (sBinC .eql 5 t39_12 (Value.int IntKind.u8 33) 5) fun _ w =>
 o pr E w (sPick t18_1 undef (Value.bool false)) fun t42_25 w =>
 k1 t42_25 w)
  (o pr E w (sPick t18_1 undef (Value.bool false)) fun t42_26 w =>
 k1 t42_26 w))
  (condG undef false (o pr E w (sIdx 9 a0 a1) fun t39_13 w =>
 o pr E w (sBinC .eql 5 t39_13 (Value.int IntKind.u8 33) 5) fun _ w =>
 o pr E w (sPick t18_1 undef (Value.bool false)) fun t42_27 w =>
 k1 t42_27 w)
  (o pr E w (sPick t18_1 undef (Value.bool false)) fun t42_28 w =>
 k1 t42_28 w)))
  (condG undef false (o pr E w (sIdx 9 a0 a1) fun t33_7 w =>
 o pr E w (sBinC .eql 5 t33_7 (Value.int IntKind.u8 61) 5) fun _ w =>
 condG undef false (o pr E w (sIdx 9 a0 a1) fun t39_14 w =>
 o pr E w (sBinC .eql 5 t39_14 (Value.int IntKind.u8 33) 5) fun _ w =>
 o pr E w (sPick t18_1 undef (Value.bool false)) fun t42_29 w =>
 k1 t42_29 w)
  (o pr E w (sPick t18_1 undef (Value.bool false)) fun t42_30 w =>
 k1 t42_30 w))
  (condG undef false (o pr E w (sIdx 9 a0 a1) fun t39_15 w =>
 o pr E w (sBinC .eql 5 t39_15 (Value.int IntKind.u8 33) 5) fun _ w =>
 o pr E w (sPick t18_1 undef (Value.bool false)) fun t42_31 w =>
 k1 t42_31 w)
  (o pr E w (sPick t18_1 undef (Value.bool false)) fun t42_32 w =>
 k1 t42_32 w))))))
 (fun t42 w =>
 condP t42 (K (Value.int IntKind.i64 2) w)
  (∃ (I1 : List Value → World → Prop) (m1 : List Value → World → Nat), I1 [(Value.int IntKind.i64 0)] w ∧
 ∀ (e1 : Nat → Value) w1, I1 [e1 6] w1 → (fun w =>
 o pr E w (sB .len [9] 3 [(Value.string (S [60, 62, 61, 43, 45, 42, 47, 37, 40, 41, 123, 125, 59]))]) fun t45 w =>
 o pr E w (sBin .lss 3 (e1 6) t45 3) fun t46 w =>
 condP t46 ((fun w =>
 oz pr (sIdx 9 a0 a1) fun t51 =>
 oz pr (sIdx 9 (Value.string (S [60, 62, 61, 43, 45, 42, 47, 37, 40, 41, 123, 125, 59])) (e1 6)) fun t54 =>
 oz pr (sBin .eql 5 t51 t54 5) fun t55 =>
 condP t55 (K (Value.int IntKind.i64 1) w)
  (o pr E w (sBinC .add 3 (e1 6) (Value.int IntKind.i64 1) 3) fun t48 w =>
 I1 [t48] w ∧ m1 [t48] w < m1 [e1 6] w1)) (dr w))
  (K (Value.int IntKind.i64 0) w)) w1))
def lv_ref_sign : Lives := [(1, [0, 1]), (2, [0, 1, 42]), (3, [0, 1]), (4, [0, 1, 5]), (5, [0, 1, 5, 6]), (6, [0, 1, 5, 6]), (7, [0, 1, 5, 6]), (8, [0, 1, 5, 6, 55]), (9, [])]
theorem sh_ref_sign_ok (a0 a1 : Value) (w : World) (R : Ending → World → Prop)
 (h : sh_ref_sign (fun v w => R (.returned v) w) (fun c w => R (.panicked c) w) a0 a1 w) : Calls pr n_ref_sign #[a0, a1] w R :=
 calls_of_W (A := lv_ref_sign) enters mixed Go.Proofs.Tryz.func87 (by kernel_rfl) (by kernel_rfl) (by kernel_rfl)
  (Eq.mp (by kernel_rfl) h)
def sh_ref_begins (K : Value → World → Prop) (E : PanicK) (a0 : Value) (w : World) : Prop :=
 cl pr E w n_ref_isName #[a0] fun t5 w =>
 (fun (k2 : Value → World → Prop) =>
 condG t5 false (o pr E w (sBinC .eql 9 a0 (Value.string (S [114, 101, 97, 100])) 9) fun t9 w =>
 o pr E w (sPick t5 (Value.bool true) t9) fun t10 w =>
 condG t10 false (o pr E w (sBinC .eql 9 a0 (Value.string (S [97, 115, 115, 101, 114, 116])) 9) fun t13 w =>
 o pr E w (sPick t10 (Value.bool true) t13) fun t14 w =>
 condG t14 false (o pr E w (sBinC .eql 9 a0 (Value.string (S [105, 102])) 9) fun t17 w =>
 o pr E w (sPick t14 (Value.bool true) t17) fun t18 w =>
 condG t18 false (o pr E w (sBinC .eql 9 a0 (Value.string (S [119, 104, 105, 108, 101])) 9) fun t21 w =>
 o pr E w (sPick t18 (Value.bool true) t21) fun t22 w =>
 k2 t22 w)
  (o pr E w (sPick t18 (Value.bool true) undef) fun t22_1 w =>
 k2 t22_1 w))
  (o pr E w (sPick t14 (Value.bool true) undef) fun t18_1 w =>
 condG t18_1 false (o pr E w (sBinC .eql 9 a0 (Value.string (S [119, 104, 105, 108, 101])) 9) fun t21_1 w =>
 o pr E w (sPick t18_1 (Value.bool true) t21_1) fun t22_2 w =>
 k2 t22_2 w)
  (o pr E w (sPick t18_1 (Value.bool true) undef) fun t22_3 w =>
 k2 t22_3 w)))
  (o pr E w (sPick t10 (Value.bool true) undef) fun t14_1 w =>
 condG t14_1 false (o pr E w (sBinC .eql 9 a0 (Value.string (S [105, 102])) 9) fun t17_1 w =>
 o pr E w (sPick t14_1 (Value.bool true) t17_1) fun t18_2 w =>
 condG t18_2 false (o pr E w (sBinC .eql 9 a0 (Value.string (S [119, 104, 105, 108, 101])) 9) fun t21_2 w =>
 o pr E w (sPick t18_2 (Value.bool true) t21_2) fun t22_4 w =>
 k2 t22_4 w)
  (o pr E w (sPick t18_2 (Value.bool true) undef) fun t22_5 w =>
 k2 t22_5 w))
  (o pr E w (sPick t14_1 (Value.bool true) undef) fun t18_3 w =>
 condG t18_3 false (o pr E w (sBinC .eql 9 a0 (Value.string (S [119, 104, 105, 108, 101])) 9) fun t21_3 w =>
 o pr E w (sPick t18_3 (Value.bool true) t21_3) fun t22_6 w =>
 k2 t22_6 w)
  (o pr E w (sPick t18_3 (Value.bool true) undef) fun t22_7 w =>
 k2 t22_7 w))))
  (o pr E w (sPick t5 (Value.bool true) undef) fun t10_1 w =>
 condG t10_1 false (o pr E w (sBinC .eql 9 a0 (Value.string (S [97, 115, 115, 101, 114, 116])) 9) fun t13_1 w =>
 o pr E w (sPick t10_1 (Value.bool true) t13_1) fun t14_2 w =>
 condG t14_2 false (o pr E w (sBinC .eql 9 a0 (Value.string (S [105, 102])) 9) fun t17_2 w =>
 o pr E w (sPick t14_2 (Value.bool true) t17_2) fun t18_4 w =>
 condG t18_4 false (o pr E w (sBinC .eql 9 a0 (Value.string (S [119, 104, 105, 108, 101])) 9) fun t21_4 w =>
 o pr E w (sPick t18_4 (Value.bool true) t21_4) fun t22_8 w =>
 k2 t22_8 w)
  (o pr E w (sPick t18_4 (Value.bool true) undef) fun t22_9 w =>
 k2 t22_9 w))
  (o pr E w (sPick t14_2 (Value.bool true) undef) fun t18_5 w =>
 condG t18_5 false (o pr E w (sBinC .eql 9 a0 (Value.string (S [119, 104, 105, 108, 101])) 9) fun t21_5 w =>
 o pr E w (sPick t18_5 (Value.bool true) t21_5) fun t22_10 w =>
 k2 t22_10 w)
  (o pr E w (sPick t18_5 (Value.bool true) undef) fun t22_11 w =>
 k2 t22_11 w)))
  (o pr E w (sPick t10_1 (Value.bool true) undef) fun t14_3 w =>
 condG t14_3 false (o pr E w (sBinC .eql 9 a0 (Value.string (S [105, 102])) 9) fun t17_3 w =>
 o pr E w (sPick t14_3 (Value.bool true) t17_3) fun t18_6 w =>
 condG t18_6 false (o pr E w (sBinC .eql 9 a0 (Value.string (S [119, 104, 105, 108, 101])) 9) fun t21_6 w =>
 o pr E w (sPick t18_6 (Value.bool true) t21_6) fun t22_12 w =>
 k2 t22_12 w)
  (o pr E w (sPick t18_6 (Value.bool true) undef) fun t22_13 w =>
 k2 t22_13 w))
  (o pr E w (sPick t14_3 (Value.bool true) undef) fun t18_7 w =>
 condG t18_7 false (o pr E w (sBinC .eql 9 a0 (Value.string (S [119, 104, 105, 108, 101])) 9) fun t21_7 w =>
 o pr E w (sPick t18_7 (Value.bool true) t21_7) fun t22_14 w =>
 k2 t22_14 w)
  (o pr E w (sPick t18_7 (Value.bool true) undef) fun t22_15 w =>
 k2 t22_15 w)))))
 (fun t2 w =>
 K t2 w)
def lv_ref_begins : Lives := [(1, [0]), (2, [0, 3])]
theorem sh_ref_begins_ok (a0 : Value) (w : World) (R : Ending → World → Prop)
 (h : sh_ref_begins (fun v w => R (.returned v) w) (fun c w => R (.panicked c) w) a0 w) : Calls pr n_ref_begins #[a0] w R :=
 calls_of_W (A := lv_ref_begins) enters mixed Go.Proofs.Tryz.func88 (by kernel_rfl) (by kernel_rfl) (by kernel_rfl)
  (Eq.mp (by kernel_rfl) h)
def sh_ref_Reader_statement (K : Value → World → Prop) (E : PanicK) (a0 : Value) (w : World) : Prop :=
 o pr E w (sNil a0) fun t8 w =>
 o pr E w (sFA 149 t8 3) fun t9 w =>
 o pr E w (sLoad 83 t9) fun t10 w =>
 o pr E w (sNil t10) fun t11 w =>
 o pr E w (sFA 92 t11 2) fun t12 w =>
 o pr E w (sLoad 3 t12) fun t13 w =>
 o pr E w (sBuild 151 [(8, t13), (5, (Value.int IntKind.i64 (-1))), (3, (Value.int IntKind.i64 (-1)))]) fun t14 w =>
 cl pr E w n_ref_Reader_node #[a0, t14] fun t15 w =>
 (fun w =>
 oz pr (sNil a0) fun t17 =>
 oz pr (sFA 149 t17 3) fun t18 =>
 oa pr w (sLoad 83 t18) fun t19 =>
 oz pr (sNil a0) fun t21 =>
 oz pr (sFA 149 t21 3) fun t22 =>
 oa pr w (sLoad 83 t22) fun t23 =>
 oz pr (sNil t23) fun t24 =>
 oz pr (sFA 92 t24 2) fun t25 =>
 oa pr w (sLoad 3 t25) fun t26 =>
 oz pr (sBinC .add 3 t26 (Value.int IntKind.i64 1) 3) fun t27 =>
 oz pr (sNil t19) fun t28 =>
 oz pr (sFA 92 t28 2) fun t29 =>
 o pr E w (sStore 3 t29 t27) fun _ w =>
 o pr E w (sNil a0) fun t31 w =>
 o pr E w (sFA 149 t31 3) fun t32 w =>
 o pr E w (sLoad 83 t32) fun t33 w =>
 o pr E w (sNil t33) fun t34 w =>
 o pr E w (sFA 92 t34 2) fun t35 w =>
 o pr E w (sLoad 3 t35) fun t36 w =>
 o pr E w (sBinC .sub 3 t36 (Value.int IntKind.i64 1) 3) fun t37 w =>
 o pr E w (sBuild 151 [(8, t37), (5, (Value.int IntKind.i64 (-1))), (3, (Value.int IntKind.i64 (-1)))]) fun t38 w =>
 o pr E w (sAlloc 151) fun t4 w =>
 o pr E w (sStore 151 t4 t38) fun _ w =>
 ∃ j1 : List Value → World → Prop, (∀ (e1 : Nat → Value) w, j1 [] w →
 (fun w =>
 oz pr (sNil a0) fun t140 =>
 oz pr (sFA 149 t140 3) fun t141 =>
 oa pr w (sLoad 83 t141) fun t142 =>
 oz pr (sNil t142) fun t143 =>
 oz pr (sFA 92 t143 0) fun t144 =>
 oa pr w (sLoad 90 t144) fun t145 =>
 oa pr w (sLoad 151 t4) fun t147 =>
 oz pr (sIA 90 t145 t15) fun t148 =>
 o pr E w (sStore 151 t148 t147) fun _ w =>
 K t15 w) (dr w)) ∧
 o pr E w (sNil a0) fun t40 w =>
 o pr E w (sFA 149 t40 2) fun t41 w =>
 o pr E w (sFA 147 t41 1) fun t42 w =>
 o pr E w (sLoad 9 t42) fun t43 w =>
 o pr E w (sBinC .eql 9 t43 (Value.string (S [114, 101, 97, 100])) 9) fun t57 w =>
 condP t57 (o pr E w (sFA 151 t4 0) fun t58 w =>
 o pr E w (sStore 3 t58 (Value.int IntKind.i64 7)) fun _ w =>
 cl pr E w n_ref_Reader_step #[a0] fun _ w =>
 cl pr E w n_ref_Reader_name #[a0] fun t62 w =>
 o pr E w (sFA 151 t4 4) fun t63 w =>
 o pr E w (sStore 3 t63 t62) fun _ w =>
 cl pr E w n_ref_Reader_take #[a0, (Value.string (S [59]))] fun _ w =>
 j1 [] w)
  (o pr E w (sBinC .eql 9 t43 (Value.string (S [97, 115, 115, 101, 114, 116])) 9) fun t67 w =>
 condP t67 (o pr E w (sFA 151 t4 0) fun t68 w =>
 o pr E w (sStore 3 t68 (Value.int IntKind.i64 8)) fun _ w =>
 o pr E w (sNil a0) fun t70 w =>
 o pr E w (sFA 149 t70 3) fun t71 w =>
 o pr E w (sLoad 83 t71) fun t72 w =>
 o pr E w (sNil t72) fun t73 w =>
 o pr E w (sFA 92 t73 3) fun t74 w =>
 o pr E w (sLoad 3 t74) fun t75 w =>
 o pr E w (sFA 151 t4 7) fun t76 w =>
 o pr E w (sStore 3 t76 t75) fun _ w =>
 (fun w =>
 oz pr (sNil a0) fun t78 =>
 oz pr (sFA 149 t78 3) fun t79 =>
 oa pr w (sLoad 83 t79) fun t80 =>
 oz pr (sNil a0) fun t82 =>
 oz pr (sFA 149 t82 3) fun t83 =>
 oa pr w (sLoad 83 t83) fun t84 =>
 oz pr (sNil t84) fun t85 =>
 oz pr (sFA 92 t85 3) fun t86 =>
 oa pr w (sLoad 3 t86) fun t87 =>
 oz pr (sBinC .add 3 t87 (Value.int IntKind.i64 1) 3) fun t88 =>
 oz pr (sNil t80) fun t89 =>
 oz pr (sFA 92 t89 3) fun t90 =>
 o pr E w (sStore 3 t90 t88) fun _ w =>
 cl pr E w n_ref_Reader_step #[a0] fun _ w =>
 cl pr E w n_ref_Reader_cond #[a0] fun t94 w =>
 o pr E w (sFA 151 t4 1) fun t95 w =>
 o pr E w (sStore 3 t95 t94) fun _ w =>
 cl pr E w n_ref_Reader_take #[a0, (Value.string (S [59]))] fun _ w =>
 j1 [] w) (dr w))
  (o pr E w (sBinC .eql 9 t43 (Value.string (S [105, 102])) 9) fun t99 w =>
 condP t99 (o pr E w (sFA 151 t4 0) fun t100 w =>
 o pr E w (sStore 3 t100 (Value.int IntKind.i64 9)) fun _ w =>
 cl pr E w n_ref_Reader_step #[a0] fun _ w =>
 cl pr E w n_ref_Reader_cond #[a0] fun t104 w =>
 o pr E w (sFA 151 t4 1) fun t105 w =>
 o pr E w (sStore 3 t105 t104) fun _ w =>
 cl pr E w n_ref_Reader_block #[a0] fun t107 w =>
 o pr E w (sFA 151 t4 2) fun t108 w =>
 o pr E w (sStore 3 t108 t107) fun _ w =>
 (fun (k28 : Value → World → Prop) =>
 o pr E w (sNil a0) fun t110 w =>
 o pr E w (sFA 149 t110 5) fun t111 w =>
 o pr E w (sLoad 3 t111) fun t112 w =>
 o pr E w (sBinC .eql 3 t112 (Value.int IntKind.i64 0) 3) fun t113 w =>
 condG t113 true (o pr E w (sNil a0) fun t116 w =>
 o pr E w (sFA 149 t116 2) fun t117 w =>
 o pr E w (sFA 147 t117 1) fun t118 w =>
 o pr E w (sLoad 9 t118) fun t119 w =>
 o pr E w (sBinC .eql 9 t119 (Value.string (S [101, 108, 115, 101])) 9) fun t120 w =>
 o pr E w (sPick t113 t120 (Value.bool false)) fun t121_1 w =>
 k28 t121_1 w)
  (o pr E w (sPick t113 undef (Value.bool false)) fun t121_2 w =>
 k28 t121_2 w))
 (fun t121 w =>
 condP t121 (cl pr E w n_ref_Reader_step #[a0] fun _ w =>
 cl pr E w n_ref_Reader_block #[a0] fun t125 w =>
 o pr E w (sFA 151 t4 3) fun t126 w =>
 o pr E w (sStore 3 t126 t125) fun _ w =>
 o pr E w (sFA 151 t4 9) fun t127 w =>
 o pr E w (sStore 4 t127 (Value.bool true)) fun _ w =>
 j1 [] w)
  (j1 [] w)))
  (o pr E w (sBinC .eql 9 t43 (Value.string (S [119, 104, 105, 108, 101])) 9) fun t129 w =>
 condP t129 (o pr E w (sFA 151 t4 0) fun t130 w =>
 o pr E w (sStore 3 t130 (Value.int IntKind.i64 10)) fun _ w =>
 cl pr E w n_ref_Reader_step #[a0] fun _ w =>
 cl pr E w n_ref_Reader_cond #[a0] fun t134 w =>
 o pr E w (sFA 151 t4 1) fun t135 w =>
 o pr E w (sStore 3 t135 t134) fun _ w =>
 cl pr E w n_ref_Reader_block #[a0] fun t137 w =>
 o pr E w (sFA 151 t4 2) fun t138 w =>
 o pr E w (sStore 3 t138 t137) fun _ w =>
 j1 [] w)
  (o pr E w (sFA 151 t4 0) fun t45 w =>
 o pr E w (sStore 3 t45 (Value.int IntKind.i64 6)) fun _ w =>
 cl pr E w n_ref_Reader_name #[a0] fun t47 w =>
 o pr E w (sFA 151 t4 4) fun t48 w =>
 o pr E w (sStore 3 t48 t47) fun _ w =>
 cl pr E w n_ref_Reader_take #[a0, (Value.string (S [61]))] fun _ w =>
 cl pr E w n_ref_Reader_sum #[a0] fun t52 w =>
 o pr E w (sFA 151 t4 1) fun t53 w =>
 o pr E w (sStore 3 t53 t52) fun _ w =>
 cl pr E w n_ref_Reader_take #[a0, (Value.string (S [59]))] fun _ w =>
 j1 [] w))))) (dr w)
def lv_ref_Reader_statement : Lives := [(1, [0]), (2, [0, 3]), (3, [0, 3]), (4, [0, 3, 4]), (5, [0, 3, 4, 5]), (7, [0, 3, 4]), (8, [0, 3, 4]), (9, [0, 3, 4]), (10, [0, 3, 4]), (11, [0, 3, 4, 44]), (12, [0, 3, 4, 44, 56]), (13, [0, 3, 4]), (14, [0, 3, 4]), (15, [0, 3, 4]), (17, [0, 3, 4, 44, 66]), (18, [0, 3, 4]), (19, [0, 3, 4]), (20, [0, 3, 4]), (21, [0, 3, 4]), (22, [0, 3, 4]), (24, [0, 3, 4, 44, 98]), (25, [0, 3, 4]), (26, [0, 3, 4]), (27, [0, 3, 4]), (28, [0, 3, 4]), (29, [0, 3, 4, 121]), (30, [0, 3, 4]), (31, [0, 3, 4]), (33, [0, 3, 4, 128]), (34, [0, 3, 4]), (35, [0, 3, 4]), (36, [0, 3, 4]), (37, [0, 3, 4]), (38, [3])]
theorem sh_ref_Reader_statement_ok (a0 : Value) (w : World) (R : Ending → World → Prop)
 (h : sh_ref_Reader_statement (fun v w => R (.returned v) w) (fun c w => R (.panicked c) w) a0 w) : Calls pr n_ref_Reader_statement #[a0] w R :=
 calls_of_W (A := lv_ref_Reader_statement) enters mixed Go.Proofs.Tryz.func89 (by kernel_rfl) (by kernel_rfl) (by kernel_rfl)
  (Eq.mp (by kernel_rfl) h)
def sh_ref_isName (K : Value → World → Prop) (E : PanicK) (a0 : Value) (w : World) : Prop :=
 (fun (k1 : Value → World → Prop) =>
 o pr E w (sB .len [9] 3 [a0]) fun t4 w =>
 o pr E w (sBinC .eql 3 t4 (Value.int IntKind.i64 1) 3) fun t5 w =>
 condG t5 true (o pr E w (sIdx 9 a0 (Value.int IntKind.i64 0)) fun t8 w =>
 o pr E w (sBinC .geq 5 t8 (Value.int IntKind.u8 97) 5) fun t9 w =>
 o pr E w (sPick t5 t9 (Value.bool false)) fun t10 w =>
 condG t10 true (o pr E w (sIdx 9 a0 (Value.int IntKind.i64 0)) fun t13 w =>
 o pr E w (sBinC .leq 5 t13 (Value.int IntKind.u8 104) 5) fun t14 w =>
 o pr E w (sPick t10 t14 (Value.bool false)) fun t15 w =>
 k1 t15 w)
  (o pr E w (sPick t10 undef (Value.bool false)) fun t15_1 w =>
 k1 t15_1 w))
  (o pr E w (sPick t5 undef (Value.bool false)) fun t10_1 w =>
 condG t10_1 true (o pr E w (sIdx 9 a0 (Value.int IntKind.i64 0)) fun t13_1 w =>
 o pr E w (sBinC .leq 5 t13_1 (Value.int IntKind.u8 104) 5) fun t14_1 w =>
 o pr E w (sPick t10_1 t14_1 (Value.bool false)) fun t15_2 w =>
 k1 t15_2 w)
  (o pr E w (sPick t10_1 undef (Value.bool false)) fun t15_3 w =>
 k1 t15_3 w)))
 (fun t2 w =>
 K t2 w)
def lv_ref_isName : Lives := [(1, [0])]
theorem sh_ref_isName_ok (a0 : Value) (w : World) (R : Ending → World → Prop)
 (h : sh_ref_isName (fun v w => R (.returned v) w) (fun c w => R (.panicked c) w) a0 w) : Calls pr n_ref_isName #[a0] w R :=
 calls_of_W (A := lv_ref_isName) enters mixed Go.Proofs.Tryz.func119 (by kernel_rfl) (by kernel_rfl) (by kernel_rfl)
  (Eq.mp (by kernel_rfl) h)
def sh_ref_Reader_node (K : Value → World → Prop) (E : PanicK) (a0 a1 : Value) (w : World) : Prop :=
 o pr E w (sBox 151 a1) fun t3 w =>
 (fun w =>
 oz pr (sNil a0) fun t7 =>
 oz pr (sFA 149 t7 3) fun t8 =>
 oa pr w (sLoad 83 t8) fun t9 =>
 oz pr (sNil t9) fun t10 =>
 oz pr (sFA 92 t10 0) fun t11 =>
 oa pr w (sLoad 90 t11) fun t12 =>
 oa pr w (sLoad 151 t3) fun t13 =>
 o pr E w (sBuildSlice 90 1 [(0, t13)]) fun t14 w =>
 rk pr w (sLoad 90 t11) t12 ∧
 rk pr w (sLoad 83 t8) t9 ∧
 o pr E w (sB .append [90, 90] 90 [t12, t14]) fun t15 w =>
 o pr E w (sNil a0) fun t17 w =>
 o pr E w (sFA 149 t17 3) fun t18 w =>
 o pr E w (sLoad 83 t18) fun t19 w =>
 o pr E w (sNil t19) fun t21 w =>
 o pr E w (sFA 92 t21 0) fun t22 w =>
 o pr E w (sStore 90 t22 t15) fun _ w =>
 o pr E w (sB .len [90] 3 [t15]) fun t24 w =>
 o pr E w (sBinC .sub 3 t24 (Value.int IntKind.i64 1) 3) fun t25 w =>
 K t25 w) (dr w)
def lv_ref_Reader_node : Lives := [(1, [0, 3]), (2, [0, 5]), (3, [5])]
theorem sh_ref_Reader_node_ok (a0 a1 : Value) (w : World) (R : Ending → World → Prop)
 (h : sh_ref_Reader_node (fun v w => R (.returned v) w) (fun c w => R (.panicked c) w) a0 a1 w) : Calls pr n_ref_Reader_node #[a0, a1] w R :=
 calls_of_W (A := lv_ref_Reader_node) enters mixed Go.Proofs.Tryz.func120 (by kernel_rfl) (by kernel_rfl) (by kernel_rfl)
  (Eq.mp (by kernel_rfl) h)
def sh_ref_Reader_name (K : Value → World → Prop) (E : PanicK) (a0 : Value) (w : World) : Prop :=
 o pr E w (sNil a0) fun t6 w =>
 o pr E w (sFA 149 t6 2) fun t7 w =>
 o pr E w (sFA 147 t7 1) fun t8 w =>
 o pr E w (sLoad 9 t8) fun t9 w =>
 cl pr E w n_ref_isName #[t9] fun t10 w =>
 (fun (k2 : Value → World → Prop) =>
 o pr E w (sNil a0) fun t12 w =>
 o pr E w (sFA 149 t12 5) fun t13 w =>
 o pr E w (sLoad 3 t13) fun t14 w =>
 o pr E w (sBinC .neq 3 t14 (Value.int IntKind.i64 0) 3) fun t15 w =>
 condG t15 false (o pr E w (sUn .not 4 t10) fun t18 w =>
 o pr E w (sPick t15 (Value.bool true) t18) fun t19_1 w =>
 k2 t19_1 w)
  (o pr E w (sPick t15 (Value.bool true) undef) fun t19_2 w =>
 k2 t19_2 w))
 (fun t19 w =>
 condP t19 (cl pr E w n_ref_Reader_wrong #[a0, (Value.int IntKind.i64 2)] fun _ w =>
 K (Value.int IntKind.i64 0) w)
  (o pr E w (sNil a0) fun t23 w =>
 o pr E w (sFA 149 t23 2) fun t24 w =>
 o pr E w (sFA 147 t24 1) fun t25 w =>
 o pr E w (sLoad 9 t25) fun t26 w =>
 o pr E w (sIdx 9 t26 (Value.int IntKind.i64 0)) fun t27 w =>
 o pr E w (sBinC .sub 5 t27 (Value.int IntKind.u8 97) 5) fun t28 w =>
 o pr E w (sConv 5 3 t28) fun t29 w =>
 cl pr E w n_ref_Reader_step #[a0] fun _ w =>
 K t29 w))
def lv_ref_Reader_name : Lives := [(1, [0]), (2, [0, 3]), (3, [0, 19]), (4, []), (5, [0]), (6, [0, 4]), (7, [4])]
theorem sh_ref_Reader_name_ok (a0 : Value) (w : World) (R : Ending → World → Prop)
 (h : sh_ref_Reader_name (fun v w => R (.returned v) w) (fun c w => R (.panicked c) w) a0 w) : Calls pr n_ref_Reader_name #[a0] w R :=
 calls_of_W (A := lv_ref_Reader_name) enters mixed Go.Proofs.Tryz.func121 (by kernel_rfl) (by kernel_rfl) (by kernel_rfl)
  (Eq.mp (by kernel_rfl) h)
def sh_ref_Reader_take (K : Value → World → Prop) (E : PanicK) (a0 a1 : Value) (w : World) : Prop :=
 o pr E w (sNil a0) fun t5 w =>
 o pr E w (sFA 149 t5 5) fun t6 w =>
 o pr E w (sLoad 3 t6) fun t7 w =>
 o pr E w (sBinC .neq 3 t7 (Value.int IntKind.i64 0) 3) fun t8 w =>
 condP t8 (K (.tuple #[]) w)
  (o pr E w (sNil a0) fun t10 w =>
 o pr E w (sFA 149 t10 2) fun t11 w =>
 o pr E w (sFA 147 t11 1) fun t12 w =>
 o pr E w (sLoad 9 t12) fun t13 w =>
 o pr E w (sBin .neq 9 t13 a1 9) fun t15 w =>
 condP t15 (cl pr E w n_ref_Reader_wrong #[a0, (Value.int IntKind.i64 2)] fun _ w =>
 K (.tuple #[]) w)
  (cl pr E w n_ref_Reader_step #[a0] fun _ w =>
 K (.tuple #[]) w))
def lv_ref_Reader_take : Lives := [(1, [0, 1]), (2, [0, 15]), (3, [0])]
theorem sh_ref_Reader_take_ok (a0 a1 : Value) (w : World) (R : Ending → World → Prop)
 (h : sh_ref_Reader_take (fun v w => R (.returned v) w) (fun c w => R (.panicked c) w) a0 a1 w) : Calls pr n_ref_Reader_take #[a0, a1] w R :=
 calls_of_W (A := lv_ref_Reader_take) enters mixed Go.Proofs.Tryz.func122 (by kernel_rfl) (by kernel_rfl) (by kernel_rfl)
  (Eq.mp (by kernel_rfl) h)
def sh_ref_Reader_cond (K : Value → World → Prop) (E : PanicK) (a0 : Value) (w : World) : Prop :=
 cl pr E w n_ref_Reader_sum #[a0] fun t7 w =>
 ∃ j1 : List Value → World → Prop, (∀ (e1 : Nat → Value) w, j1 [e1 4] w →
 o pr E w (sNil a0) fun t45 w =>
 o pr E w (sFA 149 t45 5) fun t46 w =>
 o pr E w (sLoad 3 t46) fun t47 w =>
 o pr E w (sBinC .neq 3 t47 (Value.int IntKind.i64 0) 3) fun t48 w =>
 condP t48 (K (Value.int IntKind.i64 0) w)
  (cl pr E w n_ref_Reader_step #[a0] fun _ w =>
 cl pr E w n_ref_Reader_sum #[a0] fun t52 w =>
 o pr E w (sBuild 151 [(0, (Value.int IntKind.i64 5)), (1, t7), (2, t52), (6, (e1 4))]) fun t57 w =>
 cl pr E w n_ref_Reader_node #[a0, t57] fun t58 w =>
 K t58 w)) ∧
 o pr E w (sNil a0) fun t9 w =>
 o pr E w (sFA 149 t9 2) fun t10 w =>
 o pr E w (sFA 147 t10 1) fun t11 w =>
 o pr E w (sLoad 9 t11) fun t12 w =>
 (fun (k3 : Value → World → Prop) =>
 o pr E w (sNil a0) fun t14 w =>
 o pr E w (sFA 149 t14 5) fun t15 w =>
 o pr E w (sLoad 3 t15) fun t16 w =>
 o pr E w (sBinC .eql 3 t16 (Value.int IntKind.i64 0) 3) fun t17 w =>
 condG t17 true (o pr E w (sBinC .neq 9 t12 (Value.string (S [60])) 9) fun t20 w =>
 o pr E w (sPick t17 t20 (Value.bool false)) fun t21 w =>
 condG t21 true (o pr E w (sBinC .neq 9 t12 (Value.string (S [60, 61])) 9) fun t24 w =>
 o pr E w (sPick t21 t24 (Value.bool false)) fun t25 w =>
 condG t25 true (o pr E w (sBinC .neq 9 t12 (Value.string (S [61, 61])) 9) fun t28 w =>
 o pr E w (sPick t25 t28 (Value.bool false)) fun t29 w =>
 condG t29 true (o pr E w (sBinC .neq 9 t12 (Value.string (S [33, 61])) 9) fun t32 w =>
 o pr E w (sPick t29 t32 (Value.bool false)) fun t33 w =>
 condG t33 true (o pr E w (sBinC .neq 9 t12 (Value.string (S [62, 61])) 9) fun t36 w =>
 o pr E w (sPick t33 t36 (Value.bool false)) fun t37 w =>
 condG t37 true (o pr E w (sBinC .neq 9 t12 (Value.string (S [62])) 9) fun t40 w =>
 o pr E w (sPick t37 t40 (Value.bool false)) fun t41_1 w =>
 k3 t41_1 w)
  (o pr E w (sPick t37 undef (Value.bool false)) fun t41_2 w =>
 k3 t41_2 w))
  (o pr E w (sPick t33 undef (Value.bool false)) fun t37_1 w =>
 condG t37_1 true (o pr E w (sBinC .neq 9 t12 (Value.string (S [62])) 9) fun t40_1 w =>
 o pr E w (sPick t37_1 t40_1 (Value.bool false)) fun t41_3 w =>
 k3 t41_3 w)
  (o pr E w (sPick t37_1 undef (Value.bool false)) fun t41_4 w =>
 k3 t41_4 w)))
  (o pr E w (sPick t29 undef (Value.bool false)) fun t33_1 w =>
 condG t33_1 true (o pr E w (sBinC .neq 9 t12 (Value.string (S [62, 61])) 9) fun t36_1 w =>
 o pr E w (sPick t33_1 t36_1 (Value.bool false)) fun t37_2 w =>
 condG t37_2 true (o pr E w (sBinC .neq 9 t12 (Value.string (S [62])) 9) fun t40_2 w =>
 o pr E w (sPick t37_2 t40_2 (Value.bool false)) fun t41_5 w =>
 k3 t41_5 w)
  (o pr E w (sPick t37_2 undef (Value.bool false)) fun t41_6 w =>
 k3 t41_6 w))
  (o pr E w (sPick t33_1 undef (Value.bool false)) fun t37_3 w =>
 condG t37_3 true (o pr E w (sBinC .neq 9 t12 (Value.string (S [62])) 9) fun t40_3 w =>
 o pr E w (sPick t37_3 t40_3 (Value.bool false)) fun t41_7 w =>
 k3 t41_7 w)
  (o pr E w (sPick t37_3 undef (Value.bool false)) fun t41_8 w =>
 k3 t41_8 w))))
  (o pr E w (sPick t25 undef (Value.bool false)) fun t29_1 w =>
 condG t29_1 true (o pr E w (sBinC .neq 9 t12 (Value.string (S [33, 61])) 9) fun t32_1 w =>
 o pr E w (sPick t29_1 t32_1 (Value.bool false)) fun t33_2 w =>
 condG t33_2 true (o pr E w (sBinC .neq 9 t12 (Value.string (S [62, 61])) 9) fun t36_2 w =>
 o pr E w (sPick t33_2 t36_2 (Value.bool false)) fun t37_4 w =>
 condG t37_4 true (o pr E w (sBinC .neq 9 t12 (Value.string (S [62])) 9) fun t40_4 w =>
 o pr E w (sPick t37_4 t40_4 (Value.bool false)) fun t41_9 w =>
 k3 t41_9 w)
  (o pr E w (sPick t37_4 undef (Value.bool false)) fun t41_10 w =>
 k3 t41_10 w))
  (o pr E w (sPick t33_2 undef (Value.bool false)) fun t37_5 w =>
 condG t37_5 true (o pr E w (sBinC .neq 9 t12 (Value.string (S [62])) 9) fun t40_5 w =>
 o pr E w (sPick t37_5 t40_5 (Value.bool false)) fun t41_11 w =>
 k3 t41_11 w)
  (o pr E w (sPick t37_5 undef (Value.bool false)) fun t41_12 w =>
 k3 t41_12 w)))
  (o pr E w (sPick t29_1 undef (Value.bool false)) fun t33_3 w =>
 condG t33_3 true (o pr E w (sBinC .neq 9 t12 (Value.string (S [62, 61])) 9) fun t36_3 w =>
 o pr E w (sPick t33_3 t36_3 (Value.bool false)) fun t37_6 w =>
 condG t37_6 true (o pr E w (sBinC .neq 9 t12 (Value.string (S [62])) 9) fun t40_6 w =>
 o pr E w (sPick t37_6 t40_6 (Value.bool false)) fun t41_13 w =>
 k3 t41_13 w)
  (o pr E w (sPick t37_6 undef (Value.bool false)) fun t41_14 w =>
 k3 t41_14 w))
  (o pr E w (sPick t33_3 undef (Value.bool false)) fun t37_7 w =>
 condG t37_7 true (o pr E w (sBinC .neq 9 t12 (Value.string (S [62])) 9) fun t40_7 w =>
 o pr E w (sPick t37_7 t40_7 (Value.bool false)) fun t41_15 w =>
 k3 t41_15 w)
  (o pr E w (sPick t37_7 undef (Value.bool false)) fun t41_16 w =>
 k3 t41_16 w)))))
  (o pr E w (sPick t21 undef (Value.bool false)) fun t25_1 w =>
 condG t25_1 true (o pr E w (sBinC .neq 9 t12 (Value.string (S [61, 61])) 9) fun t28_1 w =>
 o pr E w (sPick t25_1 t28_1 (Value.bool false)) fun t29_2 w =>
 condG t29_2 true (o pr E w (sBinC .neq 9 t12 (Value.string (S [33, 61])) 9) fun t32_2 w =>
 o pr E w (sPick t29_2 t32_2 (Value.bool false)) fun t33_4 w =>
 condG t33_4 true (o pr E w (sBinC .neq 9 t12 (Value.string (S [62, 61])) 9) fun t36_4 w =>
 o pr E w (sPick t33_4 t36_4 (Value.bool false)) fun t37_8 w =>
 condG t37_8 true (o pr E w (sBinC .neq 9 t12 (Value.string (S [62])) 9) fun t40_8 w =>
 o pr E w (sPick t37_8 t40_8 (Value.bool false)) fun t41_17 w =>
 k3 t41_17 w)
  (o pr E w (sPick t37_8 undef (Value.bool false)) fun t41_18 w =>
 k3 t41_18 w))
  (o pr E w (sPick t33_4 undef (Value.bool false)) fun t37_9 w =>
 condG t37_9 true (o pr E w (sBinC .neq 9 t12 (Value.string (S [62])) 9) fun t40_9 w =>
 o pr E w (sPick t37_9 t40_9 (Value.bool false)) fun t41_19 w =>
 k3 t41_19 w)
  (o pr E w (sPick t37_9 undef (Value.bool false)) fun t41_20 w =>
 k3 t41_20 w)))
  (o pr E w (sPick t29_2 undef (Value.bool false)) fun t33_5 w =>
 condG t33_5 true (o pr E w (sBinC .neq 9 t12 (Value.string (S [62, 61])) 9) fun t36_5 w =>
 o pr E w (sPick t33_5 t36_5 (Value.bool false)) fun t37_10 w =>
 condG t37_10 true (o pr E w (sBinC .neq 9 t12 (Value.string (S [62])) 9) fun t40_10 w =>
 o pr E w (sPick t37_10 t40_10 (Value.bool false)) fun t41_21 w =>
 k3 t41_21 w)
  (o pr E w (sPick t37_10 undef (Value.bool false)) fun t41_22 w =>
 k3 t41_22 w))
  (o pr E w (sPick t33_5 undef (Value.bool false)) fun t37_11 w =>
 condG t37_11 true (o pr E w (sBinC .neq 9 t12 (Value.string (S [62])) 9) fun t40_11 w =>
 o pr E w (sPick t37_11 t40_11 (Value.bool false)) fun t41_23 w =>
 k3 t41_23 w)
  (o pr E w (sPick t37_11 undef (Value.bool false)) fun t41_24 w =>
 k3 t41_24 w))))
  (o pr E w (sPick t25_1 undef (Value.bool false)) fun t29_3 w =>
 condG t29_3 true (o pr E w (sBinC .neq 9 t12 (Value.string (S [33, 61])) 9) fun t32_3 w =>
 o pr E w (sPick t29_3 t32_3 (Value.bool false)) fun t33_6 w =>
 condG t33_6 true (o pr E w (sBinC .neq 9 t12 (Value.string (S [62, 61])) 9) fun t36_6 w =>
 o pr E w (sPick t33_6 t36_6 (Value.bool false)) fun t37_12 w =>
 condG t37_12 true (o pr E w (sBinC .neq 9 t12 (Value.string (S [62])) 9) fun t40_12 w =>
 o pr E w (sPick t37_12 t40_12 (Value.bool false)) fun t41_25 w =>
 k3 t41_25 w)
  (o pr E w (sPick t37_12 undef (Value.bool false)) fun t41_26 w =>
 k3 t41_26 w))
  (o pr E w (sPick t33_6 undef (Value.bool false)) fun t37_13 w =>
 condG t37_13 true (o pr E w (sBinC .neq 9 t12 (Value.string (S [62])) 9) fun t40_13 w =>
 o pr E w (sPick t37_13 t40_13 (Value.bool false)) fun t41_27 w =>
 k3 t41_27 w)
  (o pr E w (sPick t37_13 undef (Value.bool false)) fun t41_28 w =>
 k3 t41_28 w)))
  (o pr E w (sPick t29_3 undef (Value.bool false)) fun t33_7 w =>
 condG t33_7 true (o pr E w (sBinC .neq 9 t12 (Value.string (S [62, 61])) 9) fun t36_7 w =>
 o pr E w (sPick t33_7 t36_7 (Value.bool false)) fun t37_14 w =>
 condG t37_14 true (o pr E w (sBinC .neq 9 t12 (Value.string (S [62])) 9) fun t40_14 w =>
 o pr E w (sPick t37_14 t40_14 (Value.bool false)) fun t41_29 w =>
 k3 t41_29 w)
  (o pr E w (sPick t37_14 undef (Value.bool false)) fun t41_30 w =>
 k3 t41_30 w))
  (o pr E w (sPick t33_7 undef (Value.bool false)) fun t37_15 w =>
 condG t37_15 true (o pr E w (sBinC .neq 9 t12 (Value.string (S [62])) 9) fun t40_15 w =>
 o pr E w (sPick t37_15 t40_15 (Value.bool false)) fun t41_31 w =>
 k3 t41_31 w)
  (o pr E w (sPick t37_15 undef (Value.bool false)) fun t41_32 w =>
 k3 t41_32 w))))))
  (o pr E w (sPick t17 undef (Value.bool false)) fun t21_1 w =>
 condG t21_1 true (o pr E w (sBinC .neq 9 t12 (Value.string (S [60, 61])) 9) fun t24_1 w =>
 o pr E w (sPick t21_1 t24_1 (Value.bool false)) fun t25_2 w =>
 condG t25_2 true (o pr E w (sBinC .neq 9 t12 (Value.string (S [61, 61])) 9) fun t28_2 w =>
 o pr E w (sPick t25_2 t28_2 (Value.bool false)) fun t29_4 w =>
 condG t29_4 true (o pr E w (sBinC .neq 9 t12 (Value.string (S [33, 61])) 9) fun t32_4 w =>
 o pr E w (sPick t29_4 t32_4 (Value.bool false)) fun t33_8 w =>
 condG t33_8 true (o pr E w (sBinC .neq 9 t12 (Value.string (S [62, 61])) 9) fun t36_8 w =>
 o pr E w (sPick t33_8 t36_8 (Value.bool false)) fun t37_16 w =>
 condG t37_16 true (o pr E w (sBinC .neq 9 t12 (Value.string (S [62])) 9) fun t40_16 w =>
 o pr E w (sPick t37_16 t40_16 (Value.bool false)) fun t41_33 w =>
 k3 t41_33 w)
  (o pr E w (sPick t37_16 undef (Value.bool false)) fun t41_34 w =>
 k3 t41_34 w))
  (o pr E w (sPick t33_8 undef (Value.bool false)) fun t37_17 w =>
 condG t37_17 true (o pr E w (sBinC .neq 9 t12 (Value.string (S [62])) 9) fun t40_17 w =>
 o pr E w (sPick t37_17 t40_17 (Value.bool false)) fun t41_35 w =>
 k3 t41_35 w)
  (o pr E w (sPick t37_17 undef (Value.bool false)) fun t41_36 w =>
 k3 t41_36 w)))
  (o pr E w (sPick t29_4 undef (Value.bool false)) fun t33_9 w =>
 condG t33_9 true (o pr E w (sBinC .neq 9 t12 (Value.string (S [62, 61])) 9) fun t36_9 w =>
 o pr E w (sPick t33_9 t36_9 (Value.bool false)) fun t37_18 w =>
 condG t37_18 true (o pr E w (sBinC .neq 9 t12 (Value.string (S [62])) 9) fun t40_18 w =>
 o pr E w (sPick t37_18 t40_18 (Value.bool false)) fun t41_37 w =>
 k3 t41_37 w)
  (o pr E w (sPick t37_18 undef (Value.bool false)) fun t41_38 w =>
 k3 t41_38 w))
  (o pr E w (sPick t33_9 undef (Value.bool false)) fun t37_19 w =>
 condG t37_19 true (o pr E w (sBinC .neq 9 t12 (Value.string (S [62])) 9) fun t40_19 w =>
 o pr E w (sPick t37_19 t40_19 (Value.bool false)) fun t41_39 w =>
 k3 t41_39 w)
  (o pr E w (sPick t37_19 undef (Value.bool false)) fun t41_40 w =>
 k3 t41_40 w))))
  (o pr E w (sPick t25_2 undef (Value.bool false)) fun t29_5 w =>
 condG t29_5 true (o pr E w (sBinC .neq 9 t12 (Value.string (S [33, 61])) 9) fun t32_5 w =>
 o pr E w (sPick t29_5 t32_5 (Value.bool false)) fun t33_10 w =>
 condG t33_10 true (o pr E w (sBinC .neq 9 t12 (Value.string (S [62, 61])) 9) fun t36_10 w =>
 o pr E w (sPick t33_10 t36_10 (Value.bool false)) fun t37_20 w =>
 condG t37_20 true (o pr E w (sBinC .neq 9 t12 (Value.string (S [62])) 9) fun t40_20 w =>
 o pr E w (sPick t37_20 t40_20 (Value.bool false)) fun t41_41 w =>
 k3 t41_41 w)
  (o pr E w (sPick t37_20 undef (Value.bool false)) fun t41_42 w =>
 k3 t41_42 w))
  (o pr E w (sPick t33_10 undef (Value.bool false)) fun t37_21 w =>
 condG t37_21 true (o pr E w (sBinC .neq 9 t12 (Value.string (S [62])) 9) fun t40_21 w =>
 o pr E w (sPick t37_21 t40_21 (Value.bool false)) fun t41_43 w =>
 k3 t41_43 w)
  (o pr E w (sPick t37_21 undef (Value.bool false)) fun t41_44 w =>
 k3 t41_44 w)))
  (o pr E w (sPick t29_5 undef (Value.bool false)) fun t33_11 w =>
 condG t33_11 true (o pr E w (sBinC .neq 9 t12 (Value.string (S [62, 61])) 9) fun t36_11 w =>
 o pr E w (sPick t33_11 t36_11 (Value.bool false)) fun t37_22 w =>
 condG t37_22 true (o pr E w (sBinC .neq 9 t12 (Value.string (S [62])) 9) fun t40_22 w =>
 o pr E w (sPick t37_22 t40_22 (Value.bool false)) fun t41_45 w =>
 k3 t41_45 w)
  (o pr E w (sPick t37_22 undef (Value.bool false)) fun t41_46 w =>
 k3 t41_46 w))
  (o pr E w (sPick t33_11 undef (Value.bool false)) fun t37_23 w =>
 condG t37_23 true (o pr E w (sBinC .neq 9 t12 (Value.string (S [62])) 9) fun t40_23 w =>
 o pr E w (sPick t37_23 t40_23 (Value.bool false)) fun t41_47 w =>
 k3 t41_47 w)
  (o pr E w (sPick t37_23 undef (Value.bool false)) fun t41_48 w =>
 k3 t41_48 w)))))
  (o pr E w (sPick t21_1 undef (Value.bool false)) fun t25_3 w =>
 condG t25_3 true (o pr E w (sBinC .neq 9 t12 (Value.string (S [61, 61])) 9) fun t28_3 w =>
 o pr E w (sPick t25_3 t28_3 (Value.bool false)) fun t29_6 w =>
 condG t29_6 true (o pr E w (sBinC .neq 9 t12 (Value.string (S [33, 61])) 9) fun t32_6 w =>
 o pr E w (sPick t29_6 t32_6 (Value.bool false)) fun t33_12 w =>
 condG t33_12 true (o pr E w (sBinC .neq 9 t12 (Value.string (S [62, 61])) 9) fun t36_12 w =>
 o pr E w (sPick t33_12 t36_12 (Value.bool false)) fun t37_24 w =>
 condG t37_24 true (o pr E w (sBinC .neq 9 t12 (Value.string (S [62])) 9) fun t40_24 w =>
 o pr E w (sPick t37_24 t40_24 (Value.bool false)) fun t41_49 w =>
 k3 t41_49 w)
  (o pr E w (sPick t37_24 undef (Value.bool false)) fun t41_50 w =>
 k3 t41_50 w))
  (o pr E w (sPick t33_12 undef (Value.bool false)) fun t37_25 w =>
 condG t37_25 true (o pr E w (sBinC .neq 9 t12 (Value.string (S [62])) 9) fun t40_25 w =>
 o pr E w (sPick t37_25 t40_25 (Value.bool false)) fun t41_51 w =>
 k3 t41_51 w)
  (o pr E w (sPick t37_25 undef (Value.bool false)) fun t41_52 w =>
 k3 t41_52 w)))
  (o pr E w (sPick t29_6 undef (Value.bool false)) fun t33_13 w =>
 condG t33_13 true (o pr E w (sBinC .neq 9 t12 (Value.string (S [62, 61])) 9) fun t36_13 w =>
 o pr E w (sPick t33_13 t36_13 (Value.bool false)) fun t37_26 w =>
 condG t37_26 true (o pr E w (sBinC .neq 9 t12 (Value.string (S [62])) 9) fun t40_26 w =>
 o pr E w (sPick t37_26 t40_26 (Value.bool false)) fun t41_53 w =>
 k3 t41_53 w)
  (o pr E w (sPick t37_26 undef (Value.bool false)) fun t41_54 w =>
 k3 t41_54 w))
  (o pr E w (sPick t33_13 undef (Value.bool false)) fun t37_27 w =>
 condG t37_27 true (o pr E w (sBinC .neq 9 t12 (Value.string (S [62])) 9) fun t40_27 w =>
 o pr E w (sPick t37_27 t40_27 (Value.bool false)) fun t41_55 w =>
 k3 t41_55 w)
  (o pr E w (sPick t37_27 undef (Value.bool false)) fun t41_56 w =>
 k3 t41_56 w))))
  (o pr E w (sPick t25_3 undef (Value.bool false)) fun t29_7 w =>
 condG t29_7 true (o pr E w (sBinC .neq 9 t12 (Value.string (S [33, 61])) 9) fun t32_7 w =>
 o pr E w (sPick t29_7 t32_7 (Value.bool false)) fun t33_14 w =>
 condG t33_14 true (o pr E w (sBinC .neq 9 t12 (Value.string (S [62, 61])) 9) fun t36_14 w =>
 o pr E w (sPick t33_14 t36_14 (Value.bool false)) fun t37_28 w =>
 condG t37_28 true (o pr E w (sBinC .neq 9 t12 (Value.string (S [62])) 9) fun t40_28 w =>
 o pr E w (sPick t37_28 t40_28 (Value.bool false)) fun t41_57 w =>
 k3 t41_57 w)
  (o pr E w (sPick t37_28 undef (Value.bool false)) fun t41_58 w =>
 k3 t41_58 w))
  (o pr E w (sPick t33_14 undef (Value.bool false)) fun t37_29 w =>
 condG t37_29 true (o pr E w (sBinC .neq 9 t12 (Value.string (S [62])) 9) fun t40_29 w =>
 o pr E w (sPick t37_29 t40_29 (Value.bool false)) fun t41_59 w =>
 k3 t41_59 w)
  (o pr E w (sPick t37_29 undef (Value.bool false)) fun t41_60 w =>
 k3 t41_60 w)))
  (o pr E w (sPick t29_7 undef (Value.bool false)) fun t33_15 w =>
 condG t33_15 true (o pr E w (sBinC .neq 9 t12 (Value.string (S [62, 61])) 9) fun t36_15 w =>
 o pr E w (sPick t33_15 t36_15 (Value.bool false)) fun t37_30 w =>
 condG t37_30 true (o pr E w (sBinC .neq 9 t12 (Value.string (S [62])) 9) fun t40_30 w =>
 o pr E w (sPick t37_30 t40_30 (Value.bool false)) fun t41_61 w =>
 k3 t41_61 w)
  (o pr E w (sPick t37_30 undef (Value.bool false)) fun t41_62 w =>
 k3 t41_62 w))
  (o pr E w (sPick t33_15 undef (Value.bool false)) fun t37_31 w =>
 condG t37_31 true (o pr E w (sBinC .neq 9 t12 (Value.string (S [62])) 9) fun t40_31 w =>
 o pr E w (sPick t37_31 t40_31 (Value.bool false)) fun t41_63 w =>
 k3 t41_63 w)
  (o pr E w (sPick t37_31 undef (Value.bool false)) fun t41_64 w =>
 k3 t41_64 w)))))))
 (fun t41 w =>
 condP t41 (cl pr E w n_ref_Reader_wrong #[a0, (Value.int IntKind.i64 2)] fun _ w =>
 j1 [t12] w)
  (j1 [t12] w))
def lv_ref_Reader_cond : Lives := [(1, [0]), (2, [0, 3]), (3, [0, 3, 4]), (4, [0, 3, 4, 41]), (5, [0, 3, 4]), (6, [0, 3, 4, 48]), (7, [0, 3, 4]), (8, [0, 3, 4]), (9, [0, 3, 4, 5])]
theorem sh_ref_Reader_cond_ok (a0 : Value) (w : World) (R : Ending → World → Prop)
 (h : sh_ref_Reader_cond (fun v w => R (.returned v) w) (fun c w => R (.panicked c) w) a0 w) : Calls pr n_ref_Reader_cond #[a0] w R :=
 calls_of_W (A := lv_ref_Reader_cond) enters mixed Go.Proofs.Tryz.func123 (by kernel_rfl) (by kernel_rfl) (by kernel_rfl)
  (Eq.mp (by kernel_rfl) h)
def sh_ref_Reader_block (K : Value → World → Prop) (E : PanicK) (a0 : Value) (w : World) : Prop :=
 cl pr E w n_ref_Reader_open #[a0, (Value.string (S [123]))] fun _ w =>
 cl pr E w n_ref_Reader_statements #[a0] fun t7 w =>
 cl pr E w n_ref_Reader_shut #[a0, (Value.string (S [125]))] fun _ w =>
 K t7 w
def lv_ref_Reader_block : Lives := [(1, [0]), (2, [0]), (3, [0, 3]), (4, [3])]
theorem sh_ref_Reader_block_ok (a0 : Value) (w : World) (R : Ending → World → Prop)
 (h : sh_ref_Reader_block (fun v w => R (.returned v) w) (fun c w => R (.panicked c) w) a0 w) : Calls pr n_ref_Reader_block #[a0] w R :=
 calls_of_W (A := lv_ref_Reader_block) enters mixed Go.Proofs.Tryz.func124 (by kernel_rfl) (by kernel_rfl) (by kernel_rfl)
  (Eq.mp (by kernel_rfl) h)
def sh_ref_Reader_sum (K : Value → World → Prop) (E : PanicK) (a0 : Value) (w : World) : Prop :=
 cl pr E w n_ref_Reader_product #[a0] fun t7 w =>
 ∃ (I1 : List Value → World → Prop) (m1 : List Value → World → Nat), I1 [t7] w ∧
 ∀ (e1 : Nat → Value) w1, I1 [e1 3] w1 → (fun w =>
 (fun (k2 : Value → World → Prop) =>
 o pr E w (sNil a0) fun t9 w =>
 o pr E w (sFA 149 t9 5) fun t10 w =>
 o pr E w (sLoad 3 t10) fun t11 w =>
 o pr E w (sBinC .eql 3 t11 (Value.int IntKind.i64 0) 3) fun t12 w =>
 condG t12 true (o pr E w (sNil a0) fun t15 w =>
 o pr E w (sFA 149 t15 2) fun t16 w =>
 o pr E w (sFA 147 t16 1) fun t17 w =>
 o pr E w (sLoad 9 t17) fun t18 w =>
 o pr E w (sBinC .eql 9 t18 (Value.string (S [43])) 9) fun t19 w =>
 condG t19 false (o pr E w (sNil a0) fun t22 w =>
 o pr E w (sFA 149 t22 2) fun t23 w =>
 o pr E w (sFA 147 t23 1) fun t24 w =>
 o pr E w (sLoad 9 t24) fun t25 w =>
 o pr E w (sBinC .eql 9 t25 (Value.string (S [45])) 9) fun t26 w =>
 o pr E w (sPick t19 (Value.bool true) t26) fun t27 w =>
 o pr E w (sPick t12 t27 (Value.bool false)) fun t28_1 w =>
 k2 t28_1 w)
  (o pr E w (sPick t19 (Value.bool true) undef) fun t27_1 w =>
 o pr E w (sPick t12 t27_1 (Value.bool false)) fun t28_2 w =>
 k2 t28_2 w))
  (condG undef false (o pr E w (sNil a0) fun t22_1 w =>
 o pr E w (sFA 149 t22_1 2) fun t23_1 w =>
 o pr E w (sFA 147 t23_1 1) fun t24_1 w =>
 o pr E w (sLoad 9 t24_1) fun t25_1 w =>
 o pr E w (sBinC .eql 9 t25_1 (Value.string (S [45])) 9) fun _ w =>
 o pr E w (sPick t12 undef (Value.bool false)) fun t28_3 w =>
 k2 t28_3 w)
  (o pr E w (sPick t12 undef (Value.bool false)) fun t28_4 w =>
 k2 t28_4 w)))
 (fun t28 w =>
 condP t28 (o pr E w (sNil a0) fun t30 w =>
 o pr E w (sFA 149 t30 2) fun t31 w =>
 o pr E w (sFA 147 t31 1) fun t32 w =>
 o pr E w (sLoad 9 t32) fun t33 w =>
 cl pr E w n_ref_Reader_step #[a0] fun _ w =>
 cl pr E w n_ref_Reader_product #[a0] fun t37 w =>
 cl pr E w n_ref_Reader_two #[a0, (e1 3), t33, (Value.int IntKind.i64 (-1)), t37] fun t42 w =>
 I1 [t42] w ∧ m1 [t42] w < m1 [e1 3] w1)
  (K (e1 3) w))) w1
def lv_ref_Reader_sum : Lives := [(1, [0]), (2, [0, 3]), (3, [0, 3]), (4, [0, 3, 4]), (5, [0, 3, 4]), (6, [0, 3, 4, 5]), (7, [3])]
theorem sh_ref_Reader_sum_ok (a0 : Value) (w : World) (R : Ending → World → Prop)
 (h : sh_ref_Reader_sum (fun v w => R (.returned v) w) (fun c w => R (.panicked c) w) a0 w) : Calls pr n_ref_Reader_sum #[a0] w R :=
 calls_of_W (A := lv_ref_Reader_sum) enters mixed Go.Proofs.Tryz.func125 (by kernel_rfl) (by kernel_rfl) (by kernel_rfl)
  (Eq.mp (by kernel_rfl) h)
def sh_ref_Reader_open (K : Value → World → Prop) (E : PanicK) (a0 a1 : Value) (w : World) : Prop :=
 ∃ j1 : List Value → World → Prop, (∀ (e1 : Nat → Value) w, j1 [] w →
 cl pr E w n_ref_Reader_take #[a0, a1] fun _ w =>
 o pr E w (sNil a0) fun t32 w =>
 o pr E w (sFA 149 t32 4) fun t33 w =>
 o pr E w (sLoad 3 t33) fun t34 w =>
 o pr E w (sBinC .add 3 t34 (Value.int IntKind.i64 1) 3) fun t35 w =>
 o pr E w (sNil a0) fun t36 w =>
 o pr E w (sFA 149 t36 4) fun t37 w =>
 o pr E w (sStore 3 t37 t35) fun _ w =>
 K (.tuple #[]) w) ∧
 (fun (k0 : Value → World → Prop) =>
 o pr E w (sNil a0) fun t5 w =>
 o pr E w (sFA 149 t5 5) fun t6 w =>
 o pr E w (sLoad 3 t6) fun t7 w =>
 o pr E w (sBinC .eql 3 t7 (Value.int IntKind.i64 0) 3) fun t8 w =>
 condG t8 true (o pr E w (sNil a0) fun t11 w =>
 o pr E w (sFA 149 t11 2) fun t12 w =>
 o pr E w (sFA 147 t12 1) fun t13 w =>
 o pr E w (sLoad 9 t13) fun t14 w =>
 o pr E w (sBin .eql 9 t14 a1 9) fun t16 w =>
 o pr E w (sPick t8 t16 (Value.bool false)) fun t17 w =>
 condG t17 true (o pr E w (sNil a0) fun t20 w =>
 o pr E w (sFA 149 t20 4) fun t21 w =>
 o pr E w (sLoad 3 t21) fun t22 w =>
 o pr E w (sBinC .geq 3 t22 (Value.int IntKind.i64 12) 3) fun t23 w =>
 o pr E w (sPick t17 t23 (Value.bool false)) fun t24_1 w =>
 k0 t24_1 w)
  (o pr E w (sPick t17 undef (Value.bool false)) fun t24_2 w =>
 k0 t24_2 w))
  (o pr E w (sPick t8 undef (Value.bool false)) fun t17_1 w =>
 condG t17_1 true (o pr E w (sNil a0) fun t20_1 w =>
 o pr E w (sFA 149 t20_1 4) fun t21_1 w =>
 o pr E w (sLoad 3 t21_1) fun t22_1 w =>
 o pr E w (sBinC .geq 3 t22_1 (Value.int IntKind.i64 12) 3) fun t23_1 w =>
 o pr E w (sPick t17_1 t23_1 (Value.bool false)) fun t24_3 w =>
 k0 t24_3 w)
  (o pr E w (sPick t17_1 undef (Value.bool false)) fun t24_4 w =>
 k0 t24_4 w)))
 (fun t24 w =>
 condP t24 (cl pr E w n_ref_Reader_wrong #[a0, (Value.int IntKind.i64 3)] fun _ w =>
 j1 [] w)
  (j1 [] w))
def lv_ref_Reader_open : Lives := [(1, [0, 1, 24]), (2, [0, 1]), (3, [0])]
theorem sh_ref_Reader_open_ok (a0 a1 : Value) (w : World) (R : Ending → World → Prop)
 (h : sh_ref_Reader_open (fun v w => R (.returned v) w) (fun c w => R (.panicked c) w) a0 a1 w) : Calls pr n_ref_Reader_open #[a0, a1] w R :=
 calls_of_W (A := lv_ref_Reader_open) enters mixed Go.Proofs.Tryz.func157 (by kernel_rfl) (by kernel_rfl) (by kernel_rfl)
  (Eq.mp (by kernel_rfl) h)
def sh_ref_Reader_shut (K : Value → World → Prop) (E : PanicK) (a0 a1 : Value) (w : World) : Prop :=
 cl pr E w n_ref_Reader_take #[a0, a1] fun _ w =>
 o pr E w (sNil a0) fun t9 w =>
 o pr E w (sFA 149 t9 4) fun t10 w =>
 o pr E w (sLoad 3 t10) fun t11 w =>
 o pr E w (sBinC .sub 3 t11 (Value.int IntKind.i64 1) 3) fun t12 w =>
 o pr E w (sNil a0) fun t13 w =>
 o pr E w (sFA 149 t13 4) fun t14 w =>
 o pr E w (sStore 3 t14 t12) fun _ w =>
 K (.tuple #[]) w
def lv_ref_Reader_shut : Lives := [(1, [0])]
theorem sh_ref_Reader_shut_ok (a0 a1 : Value) (w : World) (R : Ending → World → Prop)
 (h : sh_ref_Reader_shut (fun v w => R (.returned v) w) (fun c w => R (.panicked c) w) a0 a1 w) : Calls pr n_ref_Reader_shut #[a0, a1] w R :=
 calls_of_W (A := lv_ref_Reader_shut) enters mixed Go.Proofs.Tryz.func158 (by kernel_rfl) (by kernel_rfl) (by kernel_rfl)
  (Eq.mp (by kernel_rfl) h)
def sh_ref_Reader_product (K : Value → World → Prop) (E : PanicK) (a0 : Value) (w : World) : Prop :=
 cl pr E w n_ref_Reader_unary #[a0] fun t8 w =>
 ∃ (I1 : List Value → World → Prop) (m1 : List Value → World → Nat), I1 [t8] w ∧
 ∀ (e1 : Nat → Value) w1, I1 [e1 3] w1 → (fun w =>
 (fun (k2 : Value → World → Prop) =>
 o pr E w (sNil a0) fun t10 w =>
 o pr E w (sFA 149 t10 5) fun t11 w =>
 o pr E w (sLoad 3 t11) fun t12 w =>
 o pr E w (sBinC .eql 3 t12 (Value.int IntKind.i64 0) 3) fun t13 w =>
 condG t13 true (o pr E w (sNil a0) fun t16 w =>
 o pr E w (sFA 149 t16 2) fun t17 w =>
 o pr E w (sFA 147 t17 1) fun t18 w =>
 o pr E w (sLoad 9 t18) fun t19 w =>
 o pr E w (sBinC .eql 9 t19 (Value.string (S [42])) 9) fun t20 w =>
 condG t20 false (o pr E w (sNil a0) fun t23 w =>
 o pr E w (sFA 149 t23 2) fun t24 w =>
 o pr E w (sFA 147 t24 1) fun t25 w =>
 o pr E w (sLoad 9 t25) fun t26 w =>
 o pr E w (sBinC .eql 9 t26 (Value.string (S [47])) 9) fun t27 w =>
 o pr E w (sPick t20 (Value.bool true) t27) fun t28 w =>
 condG t28 false (o pr E w (sNil a0) fun t31 w =>
 o pr E w (sFA 149 t31 2) fun t32 w =>
 o pr E w (sFA 147 t32 1) fun t33 w =>
 o pr E w (sLoad 9 t33) fun t34 w =>
 o pr E w (sBinC .eql 9 t34 (Value.string (S [37])) 9) fun t35 w =>
 o pr E w (sPick t28 (Value.bool true) t35) fun t36 w =>
 o pr E w (sPick t13 t36 (Value.bool false)) fun t37_1 w =>
 k2 t37_1 w)
  (o pr E w (sPick t28 (Value.bool true) undef) fun t36_1 w =>
 o pr E w (sPick t13 t36_1 (Value.bool false)) fun t37_2 w =>
 k2 t37_2 w))
  (o pr E w (sPick t20 (Value.bool true) undef) fun t28_1 w =>
 condG t28_1 false (o pr E w (sNil a0) fun t31_1 w =>
 o pr E w (sFA 149 t31_1 2) fun t32_1 w =>
 o pr E w (sFA 147 t32_1 1) fun t33_1 w =>
 o pr E w (sLoad 9 t33_1) fun t34_1 w =>
 o pr E w (sBinC .eql 9 t34_1 (Value.string (S [37])) 9) fun t35_1 w =>
 o pr E w (sPick t28_1 (Value.bool true) t35_1) fun t36_2 w =>
 o pr E w (sPick t13 t36_2 (Value.bool false)) fun t37_3 w =>
 k2 t37_3 w)
  (o pr E w (sPick t28_1 (Value.bool true) undef) fun t36_3 w =>
 o pr E w (sPick t13 t36_3 (Value.bool false)) fun t37_4 w =>
 k2 t37_4 w)))
  (condG undef false (o pr E w (sNil a0) fun t23_1 w =>
 o pr E w (sFA 149 t23_1 2) fun t24_1 w =>
 o pr E w (sFA 147 t24_1 1) fun t25_1 w =>
 o pr E w (sLoad 9 t25_1) fun t26_1 w =>
 o pr E w (sBinC .eql 9 t26_1 (Value.string (S [47])) 9) fun _ w =>
 condG undef false (o pr E w (sNil a0) fun t31_2 w =>
 o pr E w (sFA 149 t31_2 2) fun t32_2 w =>
 o pr E w (sFA 147 t32_2 1) fun t33_2 w =>
 o pr E w (sLoad 9 t33_2) fun t34_2 w =>
 o pr E w (sBinC .eql 9 t34_2 (Value.string (S [37])) 9) fun _ w =>
 o pr E w (sPick t13 undef (Value.bool false)) fun t37_5 w =>
 k2 t37_5 w)
  (o pr E w (sPick t13 undef (Value.bool false)) fun t37_6 w =>
 k2 t37_6 w))
  (condG undef false (o pr E w (sNil a0) fun t31_3 w =>
 o pr E w (sFA 149 t31_3 2) fun t32_3 w =>
 o pr E w (sFA 147 t32_3 1) fun t33_3 w =>
 o pr E w (sLoad 9 t33_3) fun t34_3 w =>
 o pr E w (sBinC .eql 9 t34_3 (Value.string (S [37])) 9) fun _ w =>
 o pr E w (sPick t13 undef (Value.bool false)) fun t37_7 w =>
 k2 t37_7 w)
  (o pr E w (sPick t13 undef (Value.bool false)) fun t37_8 w =>
 k2 t37_8 w))))
 (fun t37 w =>
 condP t37 (o pr E w (sNil a0) fun t39 w =>
 o pr E w (sFA 149 t39 2) fun t40 w =>
 o pr E w (sFA 147 t40 1) fun t41 w =>
 o pr E w (sLoad 9 t41) fun t42 w =>
 ∃ j2 : List Value → World → Prop, (∀ (e2 : Nat → Value) w, j2 [e2 5] w →
 cl pr E w n_ref_Reader_step #[a0] fun _ w =>
 cl pr E w n_ref_Reader_unary #[a0] fun t69 w =>
 cl pr E w n_ref_Reader_two #[a0, (e1 3), t42, (e2 5), t69] fun t75 w =>
 I1 [t75] w ∧ m1 [t75] w < m1 [e1 3] w1) ∧
 o pr E w (sBinC .neq 9 t42 (Value.string (S [42])) 9) fun t44 w =>
 condP t44 (o pr E w (sNil a0) fun t46 w =>
 o pr E w (sFA 149 t46 3) fun t47 w =>
 o pr E w (sLoad 83 t47) fun t48 w =>
 o pr E w (sNil t48) fun t49 w =>
 o pr E w (sFA 92 t49 3) fun t50 w =>
 o pr E w (sLoad 3 t50) fun t51 w =>
 (fun w =>
 oz pr (sNil a0) fun t53 =>
 oz pr (sFA 149 t53 3) fun t54 =>
 oa pr w (sLoad 83 t54) fun t55 =>
 oz pr (sNil a0) fun t57 =>
 oz pr (sFA 149 t57 3) fun t58 =>
 oa pr w (sLoad 83 t58) fun t59 =>
 oz pr (sNil t59) fun t60 =>
 oz pr (sFA 92 t60 3) fun t61 =>
 oa pr w (sLoad 3 t61) fun t62 =>
 oz pr (sBinC .add 3 t62 (Value.int IntKind.i64 1) 3) fun t63 =>
 oz pr (sNil t55) fun t64 =>
 oz pr (sFA 92 t64 3) fun t65 =>
 o pr E w (sStore 3 t65 t63) fun _ w =>
 j2 [t51] w) (dr w))
  (j2 [(Value.int IntKind.i64 (-1))] w))
  (K (e1 3) w))) w1
def lv_ref_Reader_product : Lives := [(1, [0]), (2, [0, 3]), (3, [0, 3]), (4, [0, 3, 4]), (5, [0, 3, 4, 5]), (6, [0, 3, 4, 5, 44]), (7, [0, 3, 4, 5]), (8, [0, 3, 4, 5]), (9, [0, 3, 4, 5]), (10, [0, 3, 4, 5, 6]), (11, [3])]
theorem sh_ref_Reader_product_ok (a0 : Value) (w : World) (R : Ending → World → Prop)
 (h : sh_ref_Reader_product (fun v w => R (.returned v) w) (fun c w => R (.panicked c) w) a0 w) : Calls pr n_ref_Reader_product #[a0] w R :=
 calls_of_W (A := lv_ref_Reader_product) enters mixed Go.Proofs.Tryz.func159 (by kernel_rfl) (by kernel_rfl) (by kernel_rfl)
  (Eq.mp (by kernel_rfl) h)
def sh_ref_Reader_two (K : Value → World → Prop) (E : PanicK) (a0 a1 a2 a3 a4 : Value) (w : World) : Prop :=
 o pr E w (sBuild 151 [(0, (Value.int IntKind.i64 4)), (1, a1), (2, a4), (6, a2), (7, a3)]) fun t16 w =>
 cl pr E w n_ref_Reader_node #[a0, t16] fun t17 w =>
 K t17 w
def lv_ref_Reader_two : Lives := [(1, [0, 1, 2, 3, 4])]
theorem sh_ref_Reader_two_ok (a0 a1 a2 a3 a4 : Value) (w : World) (R : Ending → World → Prop)
 (h : sh_ref_Reader_two (fun v w => R (.returned v) w) (fun c w => R (.panicked c) w) a0 a1 a2 a3 a4 w) : Calls pr n_ref_Reader_two #[a0, a1, a2, a3, a4] w R :=
 calls_of_W (A := lv_ref_Reader_two) enters mixed Go.Proofs.Tryz.func160 (by kernel_rfl) (by kernel_rfl) (by kernel_rfl)
  (Eq.mp (by kernel_rfl) h)
def sh_ref_Reader_unary (K : Value → World → Prop) (E : PanicK) (a0 : Value) (w : World) : Prop :=
 o pr E w (sNil a0) fun t9 w =>
 o pr E w (sFA 149 t9 2) fun t10 w =>
 o pr E w (sFA 147 t10 1) fun t11 w =>
 o pr E w (sLoad 9 t11) fun t12 w =>
 cl pr E w n_ref_value #[t12] fun t14 w =>
 cl pr E w n_ref_isName #[t12] fun t16 w =>
 o pr E w (sNil a0) fun t19 w =>
 o pr E w (sFA 149 t19 5) fun t20 w =>
 o pr E w (sLoad 3 t20) fun t21 w =>
 o pr E w (sBinC .neq 3 t21 (Value.int IntKind.i64 0) 3) fun t22 w =>
 condP t22 (K (Value.int IntKind.i64 0) w)
  (o pr E w (sBinC .eql 9 t12 (Value.string (S [45])) 9) fun t25 w =>
 condP t25 (cl pr E w n_ref_Reader_open #[a0, (Value.string (S [45]))] fun _ w =>
 cl pr E w n_ref_Reader_unary #[a0] fun t29 w =>
 o pr E w (sNil a0) fun t32 w =>
 o pr E w (sFA 149 t32 4) fun t33 w =>
 o pr E w (sLoad 3 t33) fun t34 w =>
 o pr E w (sBinC .sub 3 t34 (Value.int IntKind.i64 1) 3) fun t35 w =>
 o pr E w (sNil a0) fun t36 w =>
 o pr E w (sFA 149 t36 4) fun t37 w =>
 o pr E w (sStore 3 t37 t35) fun _ w =>
 o pr E w (sBuild 151 [(0, (Value.int IntKind.i64 3)), (1, t29)]) fun t40 w =>
 cl pr E w n_ref_Reader_node #[a0, t40] fun t41 w =>
 K t41 w)
  (o pr E w (sBinC .eql 9 t12 (Value.string (S [40])) 9) fun t44 w =>
 condP t44 (cl pr E w n_ref_Reader_open #[a0, (Value.string (S [40]))] fun _ w =>
 cl pr E w n_ref_Reader_sum #[a0] fun t48 w =>
 cl pr E w n_ref_Reader_shut #[a0, (Value.string (S [41]))] fun _ w =>
 K t48 w)
  (o pr E w (sBinC .geq 3 t14 (Value.int IntKind.i64 0) 3) fun t54 w =>
 condP t54 (cl pr E w n_ref_Reader_step #[a0] fun _ w =>
 (fun w =>
 oz pr (sNil a0) fun t58 =>
 oz pr (sFA 149 t58 3) fun t59 =>
 oa pr w (sLoad 83 t59) fun t60 =>
 oz pr (sNil a0) fun t62 =>
 oz pr (sFA 149 t62 3) fun t63 =>
 oa pr w (sLoad 83 t63) fun t64 =>
 oz pr (sNil t64) fun t65 =>
 oz pr (sFA 92 t65 4) fun t66 =>
 oa pr w (sLoad 22 t66) fun t67 =>
 o pr E w (sBuildSlice 22 1 [(0, t14)]) fun t69 w =>
 rk pr w (sLoad 22 t66) t67 ∧
 rk pr w (sLoad 83 t63) t64 ∧
 rk pr w (sLoad 83 t59) t60 ∧
 o pr E w (sB .append [22, 22] 22 [t67, t69]) fun t70 w =>
 rk pr w (sLoad 83 t59) t60 ∧
 oz pr (sNil t60) fun t71 =>
 oz pr (sFA 92 t71 4) fun t72 =>
 o pr E w (sStore 22 t72 t70) fun _ w =>
 o pr E w (sBuild 151 [(0, (Value.int IntKind.i64 1)), (4, t14)]) fun t75 w =>
 cl pr E w n_ref_Reader_node #[a0, t75] fun t76 w =>
 K t76 w) (dr w))
  (condP t16 (cl pr E w n_ref_Reader_step #[a0] fun _ w =>
 o pr E w (sIdx 9 t12 (Value.int IntKind.i64 0)) fun t83 w =>
 o pr E w (sBinC .sub 5 t83 (Value.int IntKind.u8 97) 5) fun t84 w =>
 o pr E w (sConv 5 3 t84) fun t85 w =>
 o pr E w (sBuild 151 [(0, (Value.int IntKind.i64 2)), (4, t85)]) fun t86 w =>
 cl pr E w n_ref_Reader_node #[a0, t86] fun t87 w =>
 K t87 w)
  (cl pr E w n_ref_Reader_wrong #[a0, (Value.int IntKind.i64 2)] fun _ w =>
 K (Value.int IntKind.i64 0) w)))))
def lv_ref_Reader_unary : Lives := [(1, [0]), (2, [0, 3]), (3, [0, 3, 4]), (4, [0, 3, 4, 5]), (5, [0, 3, 4, 5, 17]), (7, [0, 3, 4, 5, 23]), (8, [0]), (9, [0, 6]), (10, [0, 6]), (12, [0, 3, 4, 5, 42]), (13, [0]), (14, [0, 7]), (15, [7]), (17, [0, 3, 4, 5, 52]), (18, [0, 4]), (19, [0, 4]), (21, [0, 3, 77]), (22, [0, 3]), (23, [0]), (24, [])]
theorem sh_ref_Reader_unary_ok (a0 : Value) (w : World) (R : Ending → World → Prop)
 (h : sh_ref_Reader_unary (fun v w => R (.returned v) w) (fun c w => R (.panicked c) w) a0 w) : Calls pr n_ref_Reader_unary #[a0] w R :=
 calls_of_W (A := lv_ref_Reader_unary) enters mixed Go.Proofs.Tryz.func188 (by kernel_rfl) (by kernel_rfl) (by kernel_rfl)
  (Eq.mp (by kernel_rfl) h)
def sh_ref_value (K : Value → World → Prop) (E : PanicK) (a0 : Value) (w : World) : Prop :=
 (fun (k1 : Value → World → Prop) =>
 o pr E w (sBinC .eql 9 a0 (Value.string (S [])) 9) fun t6 w =>
 condG t6 false (o pr E w (sB .len [9] 3 [a0]) fun t9 w =>
 o pr E w (sBinC .gtr 3 t9 (Value.int IntKind.i64 5) 3) fun t10 w =>
 o pr E w (sPick t6 (Value.bool true) t10) fun t11 w =>
 condG t11 false (o pr E w (sIdx 9 a0 (Value.int IntKind.i64 0)) fun t14 w =>
 o pr E w (sBinC .eql 5 t14 (Value.int IntKind.u8 48) 5) fun t15 w =>
 condG t15 true (o pr E w (sB .len [9] 3 [a0]) fun t18 w =>
 o pr E w (sBinC .gtr 3 t18 (Value.int IntKind.i64 1) 3) fun t19 w =>
 o pr E w (sPick t15 t19 (Value.bool false)) fun t20 w =>
 o pr E w (sPick t11 (Value.bool true) t20) fun t21_1 w =>
 k1 t21_1 w)
  (o pr E w (sPick t15 undef (Value.bool false)) fun t20_1 w =>
 o pr E w (sPick t11 (Value.bool true) t20_1) fun t21_2 w =>
 k1 t21_2 w))
  (condG undef true (o pr E w (sB .len [9] 3 [a0]) fun t18_1 w =>
 o pr E w (sBinC .gtr 3 t18_1 (Value.int IntKind.i64 1) 3) fun _ w =>
 o pr E w (sPick t11 (Value.bool true) undef) fun t21_3 w =>
 k1 t21_3 w)
  (o pr E w (sPick t11 (Value.bool true) undef) fun t21_4 w =>
 k1 t21_4 w)))
  (o pr E w (sPick t6 (Value.bool true) undef) fun t11_1 w =>
 condG t11_1 false (o pr E w (sIdx 9 a0 (Value.int IntKind.i64 0)) fun t14_1 w =>
 o pr E w (sBinC .eql 5 t14_1 (Value.int IntKind.u8 48) 5) fun t15_1 w =>
 condG t15_1 true (o pr E w (sB .len [9] 3 [a0]) fun t18_2 w =>
 o pr E w (sBinC .gtr 3 t18_2 (Value.int IntKind.i64 1) 3) fun t19_2 w =>
 o pr E w (sPick t15_1 t19_2 (Value.bool false)) fun t20_2 w =>
 o pr E w (sPick t11_1 (Value.bool true) t20_2) fun t21_5 w =>
 k1 t21_5 w)
  (o pr E w (sPick t15_1 undef (Value.bool false)) fun t20_3 w =>
 o pr E w (sPick t11_1 (Value.bool true) t20_3) fun t21_6 w =>
 k1 t21_6 w))
  (condG undef true (o pr E w (sB .len [9] 3 [a0]) fun t18_3 w =>
 o pr E w (sBinC .gtr 3 t18_3 (Value.int IntKind.i64 1) 3) fun _ w =>
 o pr E w (sPick t11_1 (Value.bool true) undef) fun t21_7 w =>
 k1 t21_7 w)
  (o pr E w (sPick t11_1 (Value.bool true) undef) fun t21_8 w =>
 k1 t21_8 w))))
 (fun t21 w =>
 condP t21 (K (Value.int IntKind.i64 (-1)) w)
  (∃ (I1 : List Value → World → Prop) (m1 : List Value → World → Nat), I1 [(Value.int IntKind.i64 0), (Value.int IntKind.i64 0)] w ∧
 ∀ (e1 : Nat → Value) w1, I1 [e1 3, e1 4] w1 → (fun w =>
 o pr E w (sB .len [9] 3 [a0]) fun t24 w =>
 o pr E w (sBin .lss 3 (e1 4) t24 3) fun t25 w =>
 condP t25 (o pr E w (sIdx 9 a0 (e1 4)) fun t30 w =>
 cl pr E w n_ref_isDigit #[t30] fun t31 w =>
 o pr E w (sUn .not 4 t31) fun t32 w =>
 condP t32 (K (Value.int IntKind.i64 (-1)) w)
  (o pr E w (sBinC .mul 3 (e1 3) (Value.int IntKind.i64 10) 3) fun t34 w =>
 o pr E w (sIdx 9 a0 (e1 4)) fun t37 w =>
 o pr E w (sBinC .sub 5 t37 (Value.int IntKind.u8 48) 5) fun t38 w =>
 o pr E w (sConv 5 3 t38) fun t39 w =>
 o pr E w (sBin .add 3 t34 t39 3) fun t40 w =>
 o pr E w (sBinC .add 3 (e1 4) (Value.int IntKind.i64 1) 3) fun t27 w =>
 I1 [t40, t27] w ∧ m1 [t40, t27] w < m1 [e1 3, e1 4] w1))
  (o pr E w (sBinC .gtr 3 (e1 3) (Value.int IntKind.i64 32767) 3) fun t42 w =>
 condP t42 (K (Value.int IntKind.i64 (-1)) w)
  (K (e1 3) w))) w1))
def lv_ref_value : Lives := [(1, [0]), (2, [0, 21]), (3, [0]), (4, [0, 3]), (5, [0, 3, 4]), (6, [0, 3, 4]), (7, [0, 3, 4]), (8, [0, 3, 4, 32]), (9, [0, 3, 4]), (10, [3]), (11, [3, 42]), (12, [3])]
theorem sh_ref_value_ok (a0 : Value) (w : World) (R : Ending → World → Prop)
 (h : sh_ref_value (fun v w => R (.returned v) w) (fun c w => R (.panicked c) w) a0 w) : Calls pr n_ref_value #[a0] w R :=
 calls_of_W (A := lv_ref_value) enters mixed Go.Proofs.Tryz.func197 (by kernel_rfl) (by kernel_rfl) (by kernel_rfl)
  (Eq.mp (by kernel_rfl) h)
end Go.Inv
namespace Go.Inv
open Go.Sh
theorem fo151_6 : fieldOff pr 151 6 = some 6 := by kernel_rfl
end Go.Inv
namespace Go.Inv
open Go.Sh
def RA3 := (And.intro (And.intro (And.intro (And.intro (And.intro (rLoad pl3) (And.intro (raLoad pl3) (rkLoad pl3))) (And.intro (And.intro (rStore pl3) (rLoad pl4)) (And.intro (raLoad pl4) (rkLoad pl4)))) (And.intro (And.intro (rStore pl4) (And.intro (rLoad pl9) (raLoad pl9))) (And.intro (And.intro (rkLoad pl9) (rStore pl9)) (And.intro (rLoad pl90) (raLoad pl90))))) (And.intro (And.intro (And.intro (rkLoad pl90) (And.intro (rStore pl90) (rLoadA ag151))) (And.intro (And.intro (raLoadA ag151) (rkLoadA ag151)) (And.intro (rStoreA ag151) (rFA fo92_0)))) (And.intro (And.intro (rzFA fo92_0) (And.intro (rFA fo92_1) (rzFA fo92_1))) (And.intro (And.intro (rFA fo151_0) (rzFA fo151_0)) (And.intro (rFA fo151_1) (rzFA fo151_1)))))) (And.intro (And.intro (And.intro (And.intro (rFA fo151_2) (And.intro (rzFA fo151_2) (rFA fo151_3))) (And.intro (And.intro (rzFA fo151_3) (rFA fo151_4)) (And.intro (rzFA fo151_4) (rFA fo151_5)))) (And.intro (And.intro (rzFA fo151_5) (And.intro (rFA fo151_6) (rzFA fo151_6))) (And.intro (And.intro (rFA fo151_9) (rzFA fo151_9)) (And.intro (rIdxS is9) (rzIdxS is9))))) (And.intro (And.intro (And.intro (rLenS is9) (And.intro (rzLenS is9) (rCut is9))) (And.intro (And.intro (rzCut is9) (rCutL is9)) (And.intro (rzCutL is9) (rConv ik3 ik3)))) (And.intro (And.intro (rzConv ik3 ik3) (And.intro (rConv ik3 ik5) (rzConv ik3 ik5))) (And.intro (And.intro (rConv ik5 ik3) (rzConv ik5 ik3)) (And.intro (rConv ik5 ik5) (rzConv ik5 ik5)))))))
def sh_law_Prints (K : Value → World → Prop) (E : PanicK) (a0 : Value) (w : World) : Prop :=
 o pr E w (sB .len [9] 3 [a0]) fun t11 w =>
 o pr E w (sBinC .gtr 3 t11 (Value.int IntKind.i64 1048576) 3) fun t12 w =>
 condP t12 (K (Value.bool true) w)
  (cl pr E w n_inv_Print #[a0] fun t15 w =>
 o pr E w (sExt t15 0) fun t16 w =>
 o pr E w (sExt t15 1) fun t17 w =>
 cl pr E w n_api_Tell #[t17] fun t20 w =>
 o pr E w (sExt t20 0) fun t21 w =>
 o pr E w (sExt t20 1) fun t22 w =>
 cl pr E w n_ref_Print #[a0] fun t25 w =>
 o pr E w (sExt t25 0) fun t26 w =>
 o pr E w (sExt t25 1) fun t27 w =>
 o pr E w (sExt t25 2) fun t28 w =>
 (fun (k6 : Value → World → Prop) =>
 o pr E w (sBin .eql 9 t16 t26 9) fun t31 w =>
 condG t31 true (cl pr E w n_law_num #[t21] fun t34 w =>
 o pr E w (sBin .eql 3 t34 t27 3) fun t36 w =>
 o pr E w (sPick t31 t36 (Value.bool false)) fun t37 w =>
 condG t37 true (o pr E w (sBin .eql 3 t22 t28 3) fun t41 w =>
 o pr E w (sPick t37 t41 (Value.bool false)) fun t42 w =>
 k6 t42 w)
  (o pr E w (sPick t37 undef (Value.bool false)) fun t42_1 w =>
 k6 t42_1 w))
  (o pr E w (sPick t31 undef (Value.bool false)) fun t37_1 w =>
 condG t37_1 true (o pr E w (sBin .eql 3 t22 t28 3) fun t41_1 w =>
 o pr E w (sPick t37_1 t41_1 (Value.bool false)) fun t42_2 w =>
 k6 t42_2 w)
  (o pr E w (sPick t37_1 undef (Value.bool false)) fun t42_3 w =>
 k6 t42_3 w)))
 (fun t2 w =>
 K t2 w))
def lv_law_Prints : Lives := [(1, [0]), (2, [0, 12]), (3, [0]), (4, [0, 3, 4]), (5, [0, 3, 5, 6]), (6, [3, 5, 6, 7, 8, 9])]
theorem sh_law_Prints_ok (a0 : Value) (w : World) (R : Ending → World → Prop)
 (h : sh_law_Prints (fun v w => R (.returned v) w) (fun c w => R (.panicked c) w) a0 w) : Calls pr n_law_Prints #[a0] w R :=
 calls_of_W (A := lv_law_Prints) enters mixed Go.Proofs.Tryz.func6 (by kernel_rfl) (by kernel_rfl) (by kernel_rfl)
  (Eq.mp (by kernel_rfl) h)
def sh_ref_Print (K : Value → World → Prop) (E : PanicK) (a0 : Value) (w : World) : Prop :=
 cl pr E w n_ref_Read #[a0] fun t11 w =>
 o pr E w (sExt t11 0) fun t12 w =>
 o pr E w (sExt t11 1) fun t13 w =>
 o pr E w (sExt t11 2) fun t14 w =>
 o pr E w (sBinC .neq 3 t13 (Value.int IntKind.i64 0) 3) fun t16 w =>
 condP t16 (K (.tuple #[(Value.string (S [])), t13, t14]) w)
  (o pr E w (sNil t12) fun t21 w =>
 o pr E w (sFA 92 t21 1) fun t22 w =>
 o pr E w (sLoad 3 t22) fun t23 w =>
 cl pr E w n_ref_Program_lines #[t12, t23, (Value.string (S []))] fun t24 w =>
 K (.tuple #[t24, (Value.int IntKind.i64 0), (Value.int IntKind.i64 0)]) w)
def lv_ref_Print : Lives := [(1, [0]), (2, [5, 6, 7]), (3, [5, 6, 7, 16]), (4, [5]), (5, [8])]
theorem sh_ref_Print_ok (a0 : Value) (w : World) (R : Ending → World → Prop)
 (h : sh_ref_Print (fun v w => R (.returned v) w) (fun c w => R (.panicked c) w) a0 w) : Calls pr n_ref_Print #[a0] w R :=
 calls_of_W (A := lv_ref_Print) enters mixed Go.Proofs.Tryz.func26 (by kernel_rfl) (by kernel_rfl) (by kernel_rfl)
  (Eq.mp (by kernel_rfl) h)
def sh_ref_Program_lines (K : Value → World → Prop) (E : PanicK) (a0 a1 a2 : Value) (w : World) : Prop :=
 ∃ (I1 : List Value → World → Prop) (m1 : List Value → World → Nat), I1 [a1, (Value.string (S []))] w ∧
 ∀ (e1 : Nat → Value) w1, I1 [e1 1, e1 7] w1 → (fun w =>
 o pr E w (sBinC .geq 3 (e1 1) (Value.int IntKind.i64 0) 3) fun t17 w =>
 condP t17 (o pr E w (sNil a0) fun t19 w =>
 o pr E w (sFA 92 t19 0) fun t20 w =>
 o pr E w (sLoad 90 t20) fun t21 w =>
 o pr E w (sIA 90 t21 (e1 1)) fun t23 w =>
 o pr E w (sLoad 151 t23) fun t24 w =>
 o pr E w (sAlloc 151) fun t8 w =>
 o pr E w (sStore 151 t8 t24) fun _ w =>
 ∃ j2 : List Value → World → Prop, (∀ (e2 : Nat → Value) w, j2 [e2 7] w →
 o pr E w (sFA 151 t8 5) fun t133 w =>
 o pr E w (sLoad 3 t133) fun t134 w =>
 I1 [t134, (e2 7)] w ∧ m1 [t134, (e2 7)] w < m1 [e1 1, e1 7] w1) ∧
 o pr E w (sFA 151 t8 4) fun t25 w =>
 o pr E w (sLoad 3 t25) fun t26 w =>
 o pr E w (sBinL .add 3 (Value.int IntKind.i64 97) t26 3) fun t27 w =>
 o pr E w (sConv 3 5 t27) fun t28 w =>
 o pr E w (sBuildSlice 169 1 [(0, t28)]) fun t29 w =>
 o pr E w (sConv 169 9 t29) fun t30 w =>
 o pr E w (sFA 151 t8 0) fun t31 w =>
 o pr E w (sLoad 3 t31) fun t32 w =>
 o pr E w (sBinC .eql 3 t32 (Value.int IntKind.i64 6) 3) fun t34 w =>
 condP t34 (o pr E w (sFA 151 t8 1) fun t36 w =>
 o pr E w (sLoad 3 t36) fun t37 w =>
 cl pr E w n_ref_Program_show #[a0, t37, (Value.int IntKind.i64 1)] fun t38 w =>
 o pr E w (sBin .add 9 (e1 7) a2 9) fun t41 w =>
 o pr E w (sBin .add 9 t41 t30 9) fun t43 w =>
 o pr E w (sBinC .add 9 t43 (Value.string (S [32, 61, 32])) 9) fun t44 w =>
 o pr E w (sBin .add 9 t44 t38 9) fun t46 w =>
 o pr E w (sBinC .add 9 t46 (Value.string (S [59, 10])) 9) fun t47 w =>
 j2 [t47] w)
  (o pr E w (sBinC .eql 3 t32 (Value.int IntKind.i64 7) 3) fun t49 w =>
 condP t49 (o pr E w (sBin .add 9 (e1 7) a2 9) fun t52 w =>
 o pr E w (sBinC .add 9 t52 (Value.string (S [114, 101, 97, 100, 32])) 9) fun t53 w =>
 o pr E w (sBin .add 9 t53 t30 9) fun t55 w =>
 o pr E w (sBinC .add 9 t55 (Value.string (S [59, 10])) 9) fun t56 w =>
 j2 [t56] w)
  (o pr E w (sBinC .eql 3 t32 (Value.int IntKind.i64 8) 3) fun t58 w =>
 condP t58 (o pr E w (sFA 151 t8 1) fun t60 w =>
 o pr E w (sLoad 3 t60) fun t61 w =>
 cl pr E w n_ref_Program_ask #[a0, t61] fun t62 w =>
 o pr E w (sBin .add 9 (e1 7) a2 9) fun t65 w =>
 o pr E w (sBinC .add 9 t65 (Value.string (S [97, 115, 115, 101, 114, 116, 32])) 9) fun t66 w =>
 o pr E w (sBin .add 9 t66 t62 9) fun t68 w =>
 o pr E w (sBinC .add 9 t68 (Value.string (S [59, 10])) 9) fun t69 w =>
 j2 [t69] w)
  (o pr E w (sBinC .eql 3 t32 (Value.int IntKind.i64 9) 3) fun t71 w =>
 condP t71 (o pr E w (sFA 151 t8 1) fun t73 w =>
 o pr E w (sLoad 3 t73) fun t74 w =>
 cl pr E w n_ref_Program_ask #[a0, t74] fun t75 w =>
 o pr E w (sFA 151 t8 2) fun t77 w =>
 o pr E w (sLoad 3 t77) fun t78 w =>
 o pr E w (sBinC .add 9 a2 (Value.string (S [32, 32])) 9) fun t80 w =>
 cl pr E w n_ref_Program_lines #[a0, t78, t80] fun t81 w =>
 ∃ j3 : List Value → World → Prop, (∀ (e3 : Nat → Value) w, j3 [e3 7] w →
 o pr E w (sBin .add 9 (e3 7) a2 9) fun t107 w =>
 o pr E w (sBinC .add 9 t107 (Value.string (S [125, 10])) 9) fun t108 w =>
 j2 [t108] w) ∧
 o pr E w (sBin .add 9 (e1 7) a2 9) fun t84 w =>
 o pr E w (sBinC .add 9 t84 (Value.string (S [105, 102, 32])) 9) fun t85 w =>
 o pr E w (sBin .add 9 t85 t75 9) fun t87 w =>
 o pr E w (sBinC .add 9 t87 (Value.string (S [32, 123, 10])) 9) fun t88 w =>
 o pr E w (sBin .add 9 t88 t81 9) fun t90 w =>
 o pr E w (sFA 151 t8 9) fun t91 w =>
 o pr E w (sLoad 4 t91) fun t92 w =>
 condP t92 (o pr E w (sFA 151 t8 3) fun t94 w =>
 o pr E w (sLoad 3 t94) fun t95 w =>
 o pr E w (sBinC .add 9 a2 (Value.string (S [32, 32])) 9) fun t97 w =>
 cl pr E w n_ref_Program_lines #[a0, t95, t97] fun t98 w =>
 o pr E w (sBin .add 9 t90 a2 9) fun t101 w =>
 o pr E w (sBinC .add 9 t101 (Value.string (S [125, 32, 101, 108, 115, 101, 32, 123, 10])) 9) fun t102 w =>
 o pr E w (sBin .add 9 t102 t98 9) fun t104 w =>
 j3 [t104] w)
  (j3 [t90] w))
  (o pr E w (sBinC .eql 3 t32 (Value.int IntKind.i64 10) 3) fun t110 w =>
 condP t110 (o pr E w (sFA 151 t8 1) fun t112 w =>
 o pr E w (sLoad 3 t112) fun t113 w =>
 cl pr E w n_ref_Program_ask #[a0, t113] fun t114 w =>
 o pr E w (sFA 151 t8 2) fun t116 w =>
 o pr E w (sLoad 3 t116) fun t117 w =>
 o pr E w (sBinC .add 9 a2 (Value.string (S [32, 32])) 9) fun t119 w =>
 cl pr E w n_ref_Program_lines #[a0, t117, t119] fun t120 w =>
 o pr E w (sBin .add 9 (e1 7) a2 9) fun t123 w =>
 o pr E w (sBinC .add 9 t123 (Value.string (S [119, 104, 105, 108, 101, 32])) 9) fun t124 w =>
 o pr E w (sBin .add 9 t124 t114 9) fun t126 w =>
 o pr E w (sBinC .add 9 t126 (Value.string (S [32, 123, 10])) 9) fun t127 w =>
 o pr E w (sBin .add 9 t127 t120 9) fun t129 w =>
 o pr E w (sBin .add 9 t129 a2 9) fun t131 w =>
 o pr E w (sBinC .add 9 t131 (Value.string (S [125, 10])) 9) fun t132 w =>
 j2 [t132] w)
  (j2 [(e1 7)] w))))))
  (K (e1 7) w)) w1
def lv_ref_Program_lines : Lives := [(1, [0, 1, 2]), (2, [0, 1, 2, 7]), (3, [0, 1, 2, 7]), (4, [0, 2, 7, 8]), (5, [0, 2, 7, 8, 9]), (6, [0, 2, 7, 8, 9, 32]), (7, [0, 2, 7, 8, 9, 32, 33]), (8, [0, 2, 7, 8, 9, 10]), (10, [0, 2, 7, 8, 9, 32, 48]), (12, [0, 2, 7, 8, 32, 57]), (13, [0, 2, 7, 8, 11]), (15, [0, 2, 7, 8, 32, 70]), (16, [0, 2, 7, 8, 12]), (17, [0, 2, 7, 8, 12, 13]), (18, [0, 2, 7, 8]), (19, [0, 2, 7, 8, 92]), (20, [0, 2, 7, 8, 13]), (21, [0, 2, 7, 8]), (23, [0, 2, 7, 8, 109]), (24, [0, 2, 7, 8, 14]), (25, [0, 2, 7, 8, 14, 15]), (26, [0, 2, 7, 8]), (27, [7])]
theorem sh_ref_Program_lines_ok (a0 a1 a2 : Value) (w : World) (R : Ending → World → Prop)
 (h : sh_ref_Program_lines (fun v w => R (.returned v) w) (fun c w => R (.panicked c) w) a0 a1 a2 w) : Calls pr n_ref_Program_lines #[a0, a1, a2] w R :=
 calls_of_W (A := lv_ref_Program_lines) enters mixed Go.Proofs.Tryz.func43 (by kernel_rfl) (by kernel_rfl) (by kernel_rfl)
  (Eq.mp (by kernel_rfl) h)
def sh_ref_Program_show (K : Value → World → Prop) (E : PanicK) (a0 a1 a2 : Value) (w : World) : Prop :=
 o pr E w (sNil a0) fun t15 w =>
 o pr E w (sFA 92 t15 0) fun t16 w =>
 o pr E w (sLoad 90 t16) fun t17 w =>
 o pr E w (sIA 90 t17 a1) fun t19 w =>
 o pr E w (sLoad 151 t19) fun t20 w =>
 o pr E w (sAlloc 151) fun t7 w =>
 o pr E w (sStore 151 t7 t20) fun _ w =>
 ∃ j1 : List Value → World → Prop, (∀ (e1 : Nat → Value) w, j1 [e1 8] w →
 cl pr E w n_ref_Program_rank #[a0, a1] fun t68 w =>
 o pr E w (sBin .lss 3 t68 a2 3) fun t71 w =>
 condP t71 (o pr E w (sBinL .add 9 (Value.string (S [40])) (e1 8) 9) fun t73 w =>
 o pr E w (sBinC .add 9 t73 (Value.string (S [41])) 9) fun t74 w =>
 K t74 w)
  (K (e1 8) w)) ∧
 o pr E w (sFA 151 t7 0) fun t21 w =>
 o pr E w (sLoad 3 t21) fun t22 w =>
 o pr E w (sBinC .eql 3 t22 (Value.int IntKind.i64 1) 3) fun t46 w =>
 condP t46 (o pr E w (sFA 151 t7 4) fun t47 w =>
 o pr E w (sLoad 3 t47) fun t48 w =>
 cl pr E w n_ref_Digits #[t48] fun t49 w =>
 j1 [t49] w)
  (o pr E w (sBinC .eql 3 t22 (Value.int IntKind.i64 2) 3) fun t51 w =>
 condP t51 (o pr E w (sFA 151 t7 4) fun t52 w =>
 o pr E w (sLoad 3 t52) fun t53 w =>
 o pr E w (sBinL .add 3 (Value.int IntKind.i64 97) t53 3) fun t54 w =>
 o pr E w (sConv 3 5 t54) fun t55 w =>
 o pr E w (sBuildSlice 169 1 [(0, t55)]) fun t56 w =>
 o pr E w (sConv 169 9 t56) fun t57 w =>
 j1 [t57] w)
  (o pr E w (sBinC .eql 3 t22 (Value.int IntKind.i64 3) 3) fun t59 w =>
 condP t59 (o pr E w (sFA 151 t7 1) fun t61 w =>
 o pr E w (sLoad 3 t61) fun t62 w =>
 cl pr E w n_ref_Program_show #[a0, t62, (Value.int IntKind.i64 3)] fun t63 w =>
 o pr E w (sBinL .add 9 (Value.string (S [45])) t63 9) fun t65 w =>
 j1 [t65] w)
  (cl pr E w n_ref_Program_rank #[a0, a1] fun t25 w =>
 o pr E w (sFA 151 t7 1) fun t27 w =>
 o pr E w (sLoad 3 t27) fun t28 w =>
 cl pr E w n_ref_Program_show #[a0, t28, t25] fun t30 w =>
 o pr E w (sFA 151 t7 2) fun t32 w =>
 o pr E w (sLoad 3 t32) fun t33 w =>
 o pr E w (sBinC .add 3 t25 (Value.int IntKind.i64 1) 3) fun t35 w =>
 cl pr E w n_ref_Program_show #[a0, t33, t35] fun t36 w =>
 o pr E w (sBinC .add 9 t30 (Value.string (S [32])) 9) fun t38 w =>
 o pr E w (sFA 151 t7 6) fun t39 w =>
 o pr E w (sLoad 9 t39) fun t40 w =>
 o pr E w (sBin .add 9 t38 t40 9) fun t41 w =>
 o pr E w (sBinC .add 9 t41 (Value.string (S [32])) 9) fun t42 w =>
 o pr E w (sBin .add 9 t42 t36 9) fun t44 w =>
 j1 [t44] w)))
def lv_ref_Program_show : Lives := [(1, [0, 1, 2]), (2, [0, 1, 2, 7]), (3, [0, 1, 2, 7]), (5, [0, 1, 2, 7, 10]), (6, [0, 1, 2, 7, 10, 11]), (7, [0, 1, 2, 7, 11, 12]), (8, [0, 1, 2, 7, 22]), (9, [0, 1, 2, 7, 22, 45]), (11, [0, 1, 2, 7, 22, 50]), (13, [0, 1, 2, 7, 58]), (14, [0, 1, 2, 9]), (15, [0, 1, 2, 8]), (16, [2, 8, 13]), (17, [8, 71]), (18, [8])]
theorem sh_ref_Program_show_ok (a0 a1 a2 : Value) (w : World) (R : Ending → World → Prop)
 (h : sh_ref_Program_show (fun v w => R (.returned v) w) (fun c w => R (.panicked c) w) a0 a1 a2 w) : Calls pr n_ref_Program_show #[a0, a1, a2] w R :=
 calls_of_W (A := lv_ref_Program_show) enters mixed Go.Proofs.Tryz.func67 (by kernel_rfl) (by kernel_rfl) (by kernel_rfl)
  (Eq.mp (by kernel_rfl) h)
def sh_ref_Program_ask (K : Value → World → Prop) (E : PanicK) (a0 a1 : Value) (w : World) : Prop :=
 o pr E w (sNil a0) fun t9 w =>
 o pr E w (sFA 92 t9 0) fun t10 w =>
 o pr E w (sLoad 90 t10) fun t11 w =>
 o pr E w (sIA 90 t11 a1) fun t13 w =>
 o pr E w (sLoad 151 t13) fun t14 w =>
 o pr E w (sAlloc 151) fun t5 w =>
 o pr E w (sStore 151 t5 t14) fun _ w =>
 o pr E w (sFA 151 t5 1) fun t16 w =>
 o pr E w (sLoad 3 t16) fun t17 w =>
 cl pr E w n_ref_Program_show #[a0, t17, (Value.int IntKind.i64 1)] fun t18 w =>
 o pr E w (sFA 151 t5 2) fun t20 w =>
 o pr E w (sLoad 3 t20) fun t21 w =>
 cl pr E w n_ref_Program_show #[a0, t21, (Value.int IntKind.i64 1)] fun t22 w =>
 o pr E w (sBinC .add 9 t18 (Value.string (S [32])) 9) fun t24 w =>
 o pr E w (sFA 151 t5 6) fun t25 w =>
 o pr E w (sLoad 9 t25) fun t26 w =>
 o pr E w (sBin .add 9 t24 t26 9) fun t27 w =>
 o pr E w (sBinC .add 9 t27 (Value.string (S [32])) 9) fun t28 w =>
 o pr E w (sBin .add 9 t28 t22 9) fun t30 w =>
 K t30 w
def lv_ref_Program_ask : Lives := [(1, [0, 1]), (2, [0, 5]), (3, [0, 5, 6]), (4, [5, 6, 7])]
theorem sh_ref_Program_ask_ok (a0 a1 : Value) (w : World) (R : Ending → World → Prop)
 (h : sh_ref_Program_ask (fun v w => R (.returned v) w) (fun c w => R (.panicked c) w) a0 a1 w) : Calls pr n_ref_Program_ask #[a0, a1] w R :=
 calls_of_W (A := lv_ref_Program_ask) enters mixed Go.Proofs.Tryz.func68 (by kernel_rfl) (by kernel_rfl) (by kernel_rfl)
  (Eq.mp (by kernel_rfl) h)
def sh_ref_Digits (K : Value → World → Prop) (E : PanicK) (a0 : Value) (w : World) : Prop :=
 o pr E w (sBinC .rem 3 a0 (Value.int IntKind.i64 10) 3) fun t6 w =>
 o pr E w (sBinL .add 3 (Value.int IntKind.i64 48) t6 3) fun t7 w =>
 o pr E w (sConv 3 5 t7) fun t8 w =>
 o pr E w (sBuildSlice 169 1 [(0, t8)]) fun t9 w =>
 o pr E w (sConv 169 9 t9) fun t10 w =>
 o pr E w (sBinC .lss 3 a0 (Value.int IntKind.i64 10) 3) fun t12 w =>
 condP t12 (K t10 w)
  (o pr E w (sBinC .quo 3 a0 (Value.int IntKind.i64 10) 3) fun t15 w =>
 cl pr E w n_ref_Digits #[t15] fun t16 w =>
 o pr E w (sBin .add 9 t16 t10 9) fun t19 w =>
 K t19 w)
def lv_ref_Digits : Lives := [(1, [0]), (2, [0, 3]), (3, [0, 3, 12]), (4, [0, 3]), (5, [3, 4])]
theorem sh_ref_Digits_ok (a0 : Value) (w : World) (R : Ending → World → Prop)
 (h : sh_ref_Digits (fun v w => R (.returned v) w) (fun c w => R (.panicked c) w) a0 w) : Calls pr n_ref_Digits #[a0] w R :=
 calls_of_W (A := lv_ref_Digits) enters mixed Go.Proofs.Tryz.func108 (by kernel_rfl) (by kernel_rfl) (by kernel_rfl)
  (Eq.mp (by kernel_rfl) h)
def sh_ref_Program_rank (K : Value → World → Prop) (E : PanicK) (a0 a1 : Value) (w : World) : Prop :=
 o pr E w (sNil a0) fun t7 w =>
 o pr E w (sFA 92 t7 0) fun t8 w =>
 o pr E w (sLoad 90 t8) fun t9 w =>
 o pr E w (sIA 90 t9 a1) fun t11 w =>
 o pr E w (sLoad 151 t11) fun t12 w =>
 o pr E w (sAlloc 151) fun t5 w =>
 o pr E w (sStore 151 t5 t12) fun _ w =>
 o pr E w (sFA 151 t5 0) fun t13 w =>
 o pr E w (sLoad 3 t13) fun t14 w =>
 o pr E w (sBinC .neq 3 t14 (Value.int IntKind.i64 4) 3) fun t15 w =>
 condP t15 (K (Value.int IntKind.i64 3) w)
  ((fun (k4 : Value → World → Prop) =>
 o pr E w (sFA 151 t5 6) fun t16 w =>
 o pr E w (sLoad 9 t16) fun t17 w =>
 o pr E w (sBinC .eql 9 t17 (Value.string (S [43])) 9) fun t18 w =>
 condG t18 false (o pr E w (sFA 151 t5 6) fun t20 w =>
 o pr E w (sLoad 9 t20) fun t21 w =>
 o pr E w (sBinC .eql 9 t21 (Value.string (S [45])) 9) fun t22 w =>
 o pr E w (sPick t18 (Value.bool true) t22) fun t23_1 w =>
 k4 t23_1 w)
  (o pr E w (sPick t18 (Value.bool true) undef) fun t23_2 w =>
 k4 t23_2 w))
 (fun t23 w =>
 condP t23 (K (Value.int IntKind.i64 1) w)
  (K (Value.int IntKind.i64 2) w)))
def lv_ref_Program_rank : Lives := [(1, [0, 1]), (2, [5]), (3, [5, 15]), (4, [5]), (5, [23]), (6, [])]
theorem sh_ref_Program_rank_ok (a0 a1 : Value) (w : World) (R : Ending → World → Prop)
 (h : sh_ref_Program_rank (fun v w => R (.returned v) w) (fun c w => R (.panicked c) w) a0 a1 w) : Calls pr n_ref_Program_rank #[a0, a1] w R :=
 calls_of_W (A := lv_ref_Program_rank) enters mixed Go.Proofs.Tryz.func109 (by kernel_rfl) (by kernel_rfl) (by kernel_rfl)
  (Eq.mp (by kernel_rfl) h)
end Go.Inv
namespace Go.Inv
open Go.Sh
abbrev tyRf : Nat := 149
abbrev tyPm : Nat := 92
abbrev tyNd : Nat := 151
def Nd.l (x : Nd) : List Value := [vi x.kind, vi x.a, vi x.b, vi x.c, vi x.n, vi x.next, .string (S x.sign), vi x.site, vi x.point, .bool x.els]
abbrev Nd.v (x : Nd) : Value := .agg #[vi x.kind, vi x.a, vi x.b, vi x.c, vi x.n, vi x.next, .string (S x.sign), vi x.site, vi x.point, .bool x.els]
def NdsAt (B : Nat) (w : World) (v : Value) (ns : List Nd) : Prop := w.ownsRow B tyNd 10 v ns.length (ns.flatMap Nd.l)
abbrev rfC (src : Bytes) (p : Nat) (s : RF) : Array Value := #[.string (S src), vi s.en, vi s.at_, .string (S s.txt), pt p 0, vi s.op, vi s.err]
structure RfAt (src : Bytes) (B r p : Nat) (w : World) (s : RF) : Prop where
 rd : w.heap[r]? = some (.cells (rfC src p s) tyRf (0, 0))
 pg : ∃ nv kv, w.heap[p]? = some (.cells #[nv, vi 0, vi s.pts, vi s.sites, kv] tyPm (0, 0)) ∧ NdsAt B w nv s.ns ∧ NumsAt B w kv s.nums
 rB : B ≤ r
 pB : B ≤ p
 wB : B ≤ w.heap.size
def SafeC (r p : Nat) (w : World) (c : Nat) : Prop := c < w.heap.size ∧ c ≠ r ∧ c ≠ p ∧ ∀ nv a b d kv t, w.heap[p]? = some (.cells #[nv, a, b, d, kv] t (0, 0)) → nv.ownBlock ≠ some c ∧ kv.ownBlock ≠ some c
structure FrB (B r p : Nat) (w w' : World) : Prop where
 size : w.heap.size ≤ w'.heap.size
 old : ∀ c, c < B → w'.heap[c]? = w.heap[c]?
 out : Out w w'
 safe : ∀ c, SafeC r p w c → w'.heap[c]? = w.heap[c]? ∧ SafeC r p w' c
theorem FrB.refl (B r p : Nat) (w : World) : FrB B r p w w := ⟨Nat.le_refl _, fun _ _ => rfl, .refl _, fun _ h => ⟨rfl, h⟩⟩
theorem FrB.trans {B r p : Nat} {a b c : World} (h : FrB B r p a b) (g : FrB B r p b c) : FrB B r p a c := ⟨Nat.le_trans h.size g.size, fun i hi => (g.old i hi).trans (h.old i hi), h.out.trans g.out, fun i hi => ⟨(g.safe i (h.safe i hi).2).1.trans (h.safe i hi).1, (g.safe i (h.safe i hi).2).2⟩⟩
theorem FrB.of_old {B r p : Nat} {a b : World} (h : Old a b) (hB : B ≤ a.heap.size) (hp : p < a.heap.size) : FrB B r p a b :=
 ⟨h.size, fun c hc => h.old c (by omega), h.out, fun c hc => ⟨h.old c hc.1, Nat.lt_of_lt_of_le hc.1 h.size, hc.2.1, hc.2.2.1, fun nv x y d kv t hq => hc.2.2.2 nv x y d kv t (by rw [← h.old p hp]; exact hq)⟩⟩
theorem FrB.dr {B r p : Nat} {a b : World} (h : FrB B r p a b) : FrB B r p a (dr b) := ⟨h.size, h.old, h.out.dr, h.safe⟩
theorem FrB.putR {B r p : Nat} {a b : World} (h : FrB B r p a b) {i : Nat} {v : Value} (hr : B ≤ r) (hne : r ≠ p) : FrB B r p a (put b r i v) :=
 h.trans ⟨by rw [size_put]; exact Nat.le_refl _, fun c hc => by rw [heap_put_ne (by omega)], (Out.refl b).put, fun c hc => ⟨by rw [heap_put_ne hc.2.1], by rw [size_put]; exact hc.1, hc.2.1, hc.2.2.1, fun nv x y d kv t hq => hc.2.2.2 nv x y d kv t (by rw [heap_put_ne hne.symm] at hq; exact hq)⟩⟩
theorem FrB.putP {B r p t : Nat} {a b : World} (h : FrB B r p a b) {i : Nat} {v nv x y d x' y' d' kv : Value} (hp : B ≤ p) (hq : b.heap[p]? = some (.cells #[nv, x, y, d, kv] t (0, 0))) (hc : (#[nv, x, y, d, kv] : Array Value).setIfInBounds i v = #[nv, x', y', d', kv]) : FrB B r p a (put b p i v) :=
 h.trans ⟨by rw [size_put]; exact Nat.le_refl _, fun c hc => by rw [heap_put_ne (by omega)], (Out.refl b).put, fun c hs => ⟨by rw [heap_put_ne hs.2.2.1], by rw [size_put]; exact hs.1, hs.2.1, hs.2.2.1, fun nv2 x2 y2 d2 kv2 t2 hq2 => by
  rw [heap_put_self, hq, map_setObj, hc] at hq2
  injection hq2 with hq2; injection hq2 with e1 e2
  obtain ⟨rfl, _, _, _, rfl⟩ : nv = nv2 ∧ x' = x2 ∧ y' = y2 ∧ d' = d2 ∧ kv = kv2 := by simpa using e1
  exact hs.2.2.2 _ _ _ _ _ _ hq⟩⟩
theorem FrB.grow0 {B r p t : Nat} {b c : World} {v nv x y d kv : Value} (hp : B ≤ p) (hBs : B ≤ b.heap.size) (hnB : ∀ k, nv.ownBlock = some k → B ≤ k) (hq : b.heap[p]? = some (.cells #[nv, x, y, d, kv] t (0, 0))) (hg : b.grownBy c nv.ownBlock) (hqc : c.heap[p]? = some (.cells #[nv, x, y, d, kv] t (0, 0)))
 (hv : v.ownBlock = nv.ownBlock ∨ ∀ g, v.ownBlock = some g → b.heap.size ≤ g) : FrB B r p b (put c p 0 v) :=
 ⟨by rw [size_put]; exact hg.size, fun k hk => by rw [heap_put_ne (by omega), hg.block k (by omega) (fun e => by have := hnB k e.symm; omega)], ((Out.refl b).grown hg).put, fun k hs => by
  have hn := hs.2.2.2 _ _ _ _ _ _ hq
  refine ⟨by rw [heap_put_ne hs.2.2.1, hg.block k hs.1 (fun e => hn.1 e.symm)], by rw [size_put]; exact Nat.lt_of_lt_of_le hs.1 hg.size, hs.2.1, hs.2.2.1, fun nv2 x2 y2 d2 kv2 t2 hq2 => ?_⟩
  rw [heap_put_self, hqc, map_setObj] at hq2
  injection hq2 with hq2; injection hq2 with e1 e2
  obtain ⟨rfl, _, _, _, rfl⟩ : v = nv2 ∧ x = x2 ∧ y = y2 ∧ d = d2 ∧ kv = kv2 := by simpa using e1
  refine ⟨fun e => ?_, hn.2⟩
  rcases hv with hv | hv
  ·rw [hv] at e; exact hn.1 e
  ·have := hv k e; have := hs.1; omega⟩
theorem FrB.grow4 {B r p t : Nat} {b c : World} {v nv x y d kv : Value} (hp : B ≤ p) (hBs : B ≤ b.heap.size) (hnB : ∀ k, kv.ownBlock = some k → B ≤ k) (hq : b.heap[p]? = some (.cells #[nv, x, y, d, kv] t (0, 0))) (hg : b.grownBy c kv.ownBlock) (hqc : c.heap[p]? = some (.cells #[nv, x, y, d, kv] t (0, 0)))
 (hv : v.ownBlock = kv.ownBlock ∨ ∀ g, v.ownBlock = some g → b.heap.size ≤ g) : FrB B r p b (put c p 4 v) :=
 ⟨by rw [size_put]; exact hg.size, fun k hk => by rw [heap_put_ne (by omega), hg.block k (by omega) (fun e => by have := hnB k e.symm; omega)], ((Out.refl b).grown hg).put, fun k hs => by
  have hn := hs.2.2.2 _ _ _ _ _ _ hq
  refine ⟨by rw [heap_put_ne hs.2.2.1, hg.block k hs.1 (fun e => hn.2 e.symm)], by rw [size_put]; exact Nat.lt_of_lt_of_le hs.1 hg.size, hs.2.1, hs.2.2.1, fun nv2 x2 y2 d2 kv2 t2 hq2 => ?_⟩
  rw [heap_put_self, hqc, map_setObj] at hq2
  injection hq2 with hq2; injection hq2 with e1 e2
  obtain ⟨rfl, _, _, _, rfl⟩ : nv = nv2 ∧ x = x2 ∧ y = y2 ∧ d = d2 ∧ v = kv2 := by simpa using e1
  refine ⟨hn.1, fun e => ?_⟩
  rcases hv with hv | hv
  ·rw [hv] at e; exact hn.2 e
  ·have := hv k e; have := hs.1; omega⟩
theorem row_keep {B t k n : Nat} {w w' : World} {v : Value} {xs : List Value} (h : w.ownsRow B t k v n xs) (hk : ∀ (c : Nat) (cs : Array Value), w.heap[c]? = some (Obj.cells cs t (0, 0)) → w'.heap[c]? = some (Obj.cells cs t (0, 0))) : w'.ownsRow B t k v n xs := by
 refine ⟨h.1, ?_⟩
 rcases h.2 with h | ⟨nb, cap, c, h1, h2, h3, h4⟩
 ·exact .inl h
 ·exact .inr ⟨nb, cap, c, h1, h2, hk _ _ h3, h4⟩
theorem RfAt.old {src : Bytes} {B r p : Nat} {w w' : World} {s : RF} (h : RfAt src B r p w s) (ho : Old w w') : RfAt src B r p w' s := by
 obtain ⟨nv, kv, h1, h2, h3⟩ := h.pg
 exact ⟨ho.heap h.rd, ⟨nv, kv, ho.heap h1, row_keep h2 (fun _ _ h => ho.heap h), row_keep h3 (fun _ _ h => ho.heap h)⟩, h.rB, h.pB, Nat.le_trans h.wB ho.size⟩
theorem RfAt.dr {src : Bytes} {B r p : Nat} {w : World} {s : RF} (h : RfAt src B r p w s) : RfAt src B r p (dr w) s := h.old ((Old.refl w).dr)
theorem RfAt.pl {src : Bytes} {B r p : Nat} {w : World} {s : RF} (h : RfAt src B r p w s) : p < w.heap.size := by
 obtain ⟨nv, kv, h1, _⟩ := h.pg; exact lt_of_heap h1
theorem RfAt.ne {src : Bytes} {B r p : Nat} {w : World} {s : RF} (h : RfAt src B r p w s) : r ≠ p := by
 rintro rfl; obtain ⟨nv, kv, h1, _⟩ := h.pg; rw [h.rd] at h1; injection h1 with hh; injection hh with _ hh; exact absurd hh (by decide)
theorem RfAt.setR {src : Bytes} {B r p : Nat} {w : World} {s s' : RF} (h : RfAt src B r p w s) {i : Nat} {v : Value} (hc : (rfC src p s).setIfInBounds i v = rfC src p s')
 (h1 : s'.pts = s.pts) (h2 : s'.sites = s.sites) (h3 : s'.ns = s.ns) (h4 : s'.nums = s.nums) : RfAt src B r p (put w r i v) s' := by
 obtain ⟨nv, kv, g1, g2, g3⟩ := h.pg
 have hne := h.ne
 refine ⟨by rw [heap_put_self, h.rd, map_setObj, hc], ⟨nv, kv, by rw [heap_put_ne hne.symm, g1, h1, h2], ?_, ?_⟩, h.rB, h.pB, by rw [size_put]; exact h.wB⟩
 ·rw [h3]; exact row_keep g2 fun c cs hcs => by
   have : c ≠ r := fun e => by rw [e, h.rd] at hcs; injection hcs with hh; injection hh with _ hh; exact absurd hh (by decide)
   rw [heap_put_ne this]; exact hcs
 ·rw [h4]; exact row_keep g3 fun c cs hcs => by
   have : c ≠ r := fun e => by rw [e, h.rd] at hcs; injection hcs with hh; injection hh with _ hh; exact absurd hh (by decide)
   rw [heap_put_ne this]; exact hcs
theorem RfAt.setP {src : Bytes} {B r p : Nat} {w : World} {s s' : RF} (h : RfAt src B r p w s) {i : Nat} {v : Value} (hc : ∀ nv kv, (#[nv, vi 0, vi s.pts, vi s.sites, kv] : Array Value).setIfInBounds i v = #[nv, vi 0, vi s'.pts, vi s'.sites, kv])
 (h1 : rfC src p s' = rfC src p s) (h3 : s'.ns = s.ns) (h4 : s'.nums = s.nums) : RfAt src B r p (put w p i v) s' := by
 obtain ⟨nv, kv, g1, g2, g3⟩ := h.pg
 have hne := h.ne
 refine ⟨by rw [heap_put_ne hne, h.rd, h1], ⟨nv, kv, by rw [heap_put_self, g1, map_setObj, hc], ?_, ?_⟩, h.rB, h.pB, by rw [size_put]; exact h.wB⟩
 ·rw [h3]; exact row_keep g2 fun c cs hcs => by
   have : c ≠ p := fun e => by rw [e, g1] at hcs; injection hcs with hh; injection hh with _ hh; exact absurd hh (by decide)
   rw [heap_put_ne this]; exact hcs
 ·rw [h4]; exact row_keep g3 fun c cs hcs => by
   have : c ≠ p := fun e => by rw [e, g1] at hcs; injection hcs with hh; injection hh with _ hh; exact absurd hh (by decide)
   rw [heap_put_ne this]; exact hcs
theorem RfAt.hr {src : Bytes} {B r p : Nat} {w : World} {s : RF} (h : RfAt src B r p w s) : w.heap[r]? = some (.cells #[.string (S src), vi s.en, vi s.at_, .string (S s.txt), pt p 0, vi s.op, vi s.err] tyRf (0, 0)) := h.rd
theorem gR5 (a b c d e f : Value) (l : List Value) : (a :: b :: c :: d :: e :: f :: l).toArray[5]? = some f := by simp
theorem gR6 (a b c d e f g : Value) (l : List Value) : (a :: b :: c :: d :: e :: f :: g :: l).toArray[6]? = some g := by simp
theorem gR7 (a b c d e f g h : Value) (l : List Value) : (a :: b :: c :: d :: e :: f :: g :: h :: l).toArray[7]? = some h := by simp
theorem gR8 (a b c d e f g h i : Value) (l : List Value) : (a :: b :: c :: d :: e :: f :: g :: h :: i :: l).toArray[8]? = some i := by simp
theorem gR9 (a b c d e f g h i j : Value) (l : List Value) : (a :: b :: c :: d :: e :: f :: g :: h :: i :: j :: l).toArray[9]? = some j := by simp
def GR := And.intro gR5 <| And.intro gR6 <| And.intro gR7 <| And.intro gR8 gR9
theorem condJr {p : Prop} [Decidable p] {b : Bool} {x y : Prop} (h : b = decide p) (h1 : p → x) (h2 : ¬ p → y) : condP (.bool b) x y := by
 subst h
 exact condP_split (fun h => h1 (of_decide_eq_true h)) (fun h => h2 (of_decide_eq_false h))
def CG := And.intro @condG_yes <| And.intro @condG_no1 <| And.intro @condG_no2 <| And.intro @condG_undef <| And.intro @condP_true @condP_false
end Go.Inv
namespace Go.Inv
open Go.Sh
theorem rletter_ok (c : UInt8) (w : World) : Calls pr n_ref_isLetter #[vb c] w (Is (.bool (letterB c)) w) := by
 refine sh_ref_isLetter_ok _ _ _ ?_
 unfold sh_ref_isLetter
 simp only [↓RG, RV]
 rw [letterB_int]
 refine condG_split (fun h => ?_) (fun h => ?_)
 ·first | rw [h] | skip
  simp only [ge_iff_le] at h
  simp only [h, ge_iff_le, ↓RG, RV, cond_true]; exact ⟨rfl, rfl⟩
 ·simp only [ge_iff_le, ne_eq, Bool.not_eq_true] at h
  simp only [h, ge_iff_le, ↓RG, RV, cond_false]; exact ⟨rfl, rfl⟩
theorem rdigit_ok (c : UInt8) (w : World) : Calls pr n_ref_isDigit #[vb c] w (Is (.bool (digitB c)) w) := by
 refine sh_ref_isDigit_ok _ _ _ ?_
 unfold sh_ref_isDigit
 simp only [↓RG, RV]
 rw [digitB_int]
 refine condG_split (fun h => ?_) (fun h => ?_)
 ·simp only [ge_iff_le] at h
  simp only [h, ge_iff_le, ↓RG, RV, cond_true]; exact ⟨rfl, rfl⟩
 ·simp only [ge_iff_le, ne_eq, Bool.not_eq_true] at h
  simp only [h, ge_iff_le, ↓RG, RV, cond_false]; exact ⟨rfl, rfl⟩
def signs13 : Bytes := [60, 62, 61, 43, 45, 42, 47, 37, 40, 41, 123, 125, 59]
def sgTwo (c : UInt8) (d : Option UInt8) : Bool := d == some 61 && (c == 60 || c == 62 || c == 61 || c == 33)
theorem signLen_eq (c : UInt8) (r : Bytes) : signLen (c :: r) = if sgTwo c r.head? then 2 else if c ∈ signs13 then 1 else 0 := by
 unfold signLen sgTwo signs13
 by_cases h1 : c = 60
 ·subst h1; cases h : (r.head? == some 61) <;> simp [h]
 by_cases h2 : c = 62
 ·subst h2; cases h : (r.head? == some 61) <;> simp [h]
 by_cases h3 : c = 61
 ·subst h3; cases h : (r.head? == some 61) <;> simp [h]
 by_cases h4 : c = 33
 ·subst h4; cases h : (r.head? == some 61) <;> simp [h]
 simp [h1, h2, h3, h4, or_assoc]
def SgM2 (vs : List Value) (_ : World) : Nat := match vs with
 | [.int _ n] => 13 - n.toNat
 | _ => 0
theorem rsign_ok {src : Bytes} {i : Nat} {c : UInt8} (hc : src[i]? = some c) (hs : src.length ≤ 400) (w : World) : Calls pr n_ref_sign #[.string (S src), vi i] w (fun e w' => e = .returned (vi (signLen (src.drop i))) ∧ Old w w') := by
 have hi : i < src.length := (List.getElem?_eq_some_iff.1 hc).1
 have hdrop : src.drop i = c :: src.drop (i + 1) := by
  rw [List.drop_eq_getElem_cons hi]; congr 1
  exact (List.getElem?_eq_some_iff.1 hc).2
 have hhead : (src.drop (i + 1)).head? = src[i + 1]? := by simp
 rw [hdrop, signLen_eq, hhead]
 have hw : IntKind.i64.wrap ((i : Int) + 1) = ((i + 1 : Nat) : Int) := by rw [wrap64 (by omega) (by omega)]; omega
 have tail : ∀ (q : Bool), sgTwo c src[i + 1]? = q → condP (.bool q) (Old w w ∧ True) True → True := fun _ _ _ => trivial
 have two : sgTwo c src[i + 1]? = true → (fun e w' => e = Ending.returned (vi ((if sgTwo c src[i + 1]? = true then 2 else if c ∈ signs13 then 1 else 0 : Nat))) ∧ Old w w') (.returned (vi 2)) w := fun h => ⟨by rw [if_pos h]; rfl, Old.refl w⟩
 have one : sgTwo c src[i + 1]? = false → ∀ w', Old w w' → c ∈ signs13 → (fun e w' => e = Ending.returned (vi ((if sgTwo c src[i + 1]? = true then 2 else if c ∈ signs13 then 1 else 0 : Nat))) ∧ Old w w') (.returned (vi 1)) w' := fun h w' ho hm => ⟨by rw [h, if_neg (by simp), if_pos hm]; rfl, ho⟩
 have nul : sgTwo c src[i + 1]? = false → ∀ w', Old w w' → c ∉ signs13 → (fun e w' => e = Ending.returned (vi ((if sgTwo c src[i + 1]? = true then 2 else if c ∈ signs13 then 1 else 0 : Nat))) ∧ Old w w') (.returned (vi 0)) w' := fun h w' ho hm => ⟨by rw [h, if_neg (by simp), if_neg hm]; rfl, ho⟩
 clear tail
 generalize hR : (fun (e : Ending) (w' : World) => e = Ending.returned (vi ((if sgTwo c src[i + 1]? = true then 2 else if c ∈ signs13 then 1 else 0 : Nat))) ∧ Old w w') = R at *
 refine sh_ref_sign_ok _ _ _ _ ?_
 unfold sh_ref_sign
 have loop : sgTwo c src[i + 1]? = false → ∃ (I1 : List Value → World → Prop) (m1 : List Value → World → Nat), I1 [(Value.int IntKind.i64 0)] w ∧
  ∀ (e1 : Nat → Value) w1, I1 [e1 6] w1 → (fun w =>
  o pr (fun c w => R (.panicked c) w) w (sB .len [9] 3 [(Value.string (S [60, 62, 61, 43, 45, 42, 47, 37, 40, 41, 123, 125, 59]))]) fun t45 w =>
  o pr (fun c w => R (.panicked c) w) w (sBin .lss 3 (e1 6) t45 3) fun t46 w =>
  condP t46 ((fun w =>
  oz pr (sIdx 9 (.string (S src)) (vi i)) fun t51 =>
  oz pr (sIdx 9 (Value.string (S [60, 62, 61, 43, 45, 42, 47, 37, 40, 41, 123, 125, 59])) (e1 6)) fun t54 =>
  oz pr (sBin .eql 5 t51 t54 5) fun t55 =>
  condP t55 (R (.returned (Value.int IntKind.i64 1)) w)
  (o pr (fun c w => R (.panicked c) w) w (sBinC .add 3 (e1 6) (Value.int IntKind.i64 1) 3) fun t48 w =>
  I1 [t48] w ∧ m1 [t48] w < m1 [e1 6] w1)) (dr w))
  (R (.returned (Value.int IntKind.i64 0)) w)) w1 := fun hq => by
  refine ⟨fun vs w' => ∃ k : Nat, vs = [vi k] ∧ k ≤ 13 ∧ Old w w' ∧ ∀ j, j < k → signs13[j]? ≠ some c, SgM2, ⟨0, rfl, by omega, Old.refl w, fun j hj => absurd hj (by omega)⟩, ?_⟩
  rintro e1 w1 ⟨k, he, hk, ho, hn⟩
  have e6 : e1 6 = vi k := by simpa using he
  rw [e6]
  simp only [↓RA1, ↓RT, ↓RG, RV]
  refine condP_split (fun h => ?_) (fun h => ?_)
  ·have hk13 : k < 13 := by simp at h; omega
   obtain ⟨d, hd⟩ : ∃ d, signs13[k]? = some d := ⟨signs13[k], List.getElem?_eq_getElem hk13⟩
   have hd' : ([60, 62, 61, 43, 45, 42, 47, 37, 40, 41, 123, 125, 59] : Bytes)[k]? = some d := hd
   have hwk : IntKind.i64.wrap ((k : Int) + 1) = ((k + 1 : Nat) : Int) := by rw [wrap64 (by omega) (by omega)]; omega
   simp only [↓RA1, ↓RT, ↓RG, RV, strAt_nat hc, strAt_nat hd', bq]
   refine condP_split (fun hcd => ?_) (fun hcd => ?_)
   ·have : c = d := by simpa using hcd
    subst this
    exact one hq _ ho.dr (List.mem_of_getElem? hd)
   ·simp only [↓RA1, ↓RT, ↓RG, RV, hwk]
    refine ⟨⟨k + 1, rfl, hk13, ho.dr, fun j hj => ?_⟩, by simp only [SgM2, Int.toNat_natCast]; omega⟩
    by_cases hjk : j = k
    ·subst hjk; rw [hd]; intro e; cases e; simp at hcd
    ·exact hn j (by omega)
  ·have hk13 : k = 13 := by simp at h; omega
   subst hk13
   refine nul hq _ ho fun hm => ?_
   obtain ⟨j, hj, hj2⟩ := List.getElem_of_mem hm
   exact hn j hj (by rw [List.getElem?_eq_getElem hj, hj2])
 by_cases hlt : i + 1 < src.length
 ·obtain ⟨d, hd⟩ : ∃ d, src[i + 1]? = some d := ⟨src[i + 1], List.getElem?_eq_getElem hlt⟩
  have hl : decide (((i + 1 : Nat) : Int) < (src.length : Int)) = true := decide_eq_true (by omega)
  rw [hd] at two loop
  simp only [hw, hl, ↓RA1, ↓RT, ↓RG, RV, condG_yes, strAt_nat hd, bqs, cond_true]
  cases h61 : (d == 61) with
  | false =>
    simp only [↓RA1, ↓RT, ↓RG, RV, condG_yes, condG_no1, condG_no2, condG_undef, cond_true, cond_false, condP_false]
    have hl := loop (by unfold sgTwo; rw [show (some d == some (61 : UInt8)) = (d == 61) from rfl, h61]; rfl)
    simp only [↓RA1, ↓RT, ↓RG, RV] at hl
    exact hl
  | true =>
    have ed : (some d == some (61 : UInt8)) = true := h61
    simp only [↓RA1, ↓RT, ↓RG, RV, condG_yes, strAt_nat hc, bqs, cond_true]
    cases h60 : (c == 60) with
    | true =>
      simp only [↓RA1, ↓RT, ↓RG, RV, condG_yes, condG_no1, condG_no2, condG_undef, cond_true, cond_false, condP_true]
      exact two (by unfold sgTwo; rw [ed, h60]; rfl)
    | false =>
      simp only [↓RA1, ↓RT, ↓RG, RV, condG_yes, condG_no1, condG_no2, condG_undef, strAt_nat hc, bqs, cond_true, cond_false]
      cases h62 : (c == 62) with
      | true =>
        simp only [↓RA1, ↓RT, ↓RG, RV, condG_yes, condG_no1, condG_no2, condG_undef, cond_true, cond_false, condP_true]
        exact two (by unfold sgTwo; rw [ed, h60, h62]; rfl)
      | false =>
        simp only [↓RA1, ↓RT, ↓RG, RV, condG_yes, condG_no1, condG_no2, condG_undef, strAt_nat hc, bqs, cond_true, cond_false]
        cases h61' : (c == 61) with
        | true =>
          simp only [↓RA1, ↓RT, ↓RG, RV, condG_yes, condG_no1, condG_no2, condG_undef, cond_true, cond_false, condP_true]
          exact two (by unfold sgTwo; rw [ed, h60, h62, h61']; rfl)
        | false =>
          simp only [↓RA1, ↓RT, ↓RG, RV, condG_yes, condG_no1, condG_no2, condG_undef, strAt_nat hc, bqs, cond_true, cond_false]
          cases h33 : (c == 33) with
          | true =>
            simp only [↓RA1, ↓RT, ↓RG, RV, condG_yes, condG_no1, condG_no2, condG_undef, cond_true, cond_false, condP_true]
            exact two (by unfold sgTwo; rw [ed, h60, h62, h61', h33]; rfl)
          | false =>
            simp only [↓RA1, ↓RT, ↓RG, RV, condG_yes, condG_no1, condG_no2, condG_undef, cond_true, cond_false, condP_false]
            have hl := loop (by unfold sgTwo; rw [ed, h60, h62, h61', h33]; rfl)
            simp only [↓RA1, ↓RT, ↓RG, RV, strAt_nat hc, bqs] at hl
            exact hl
 ·have hl : decide (((i + 1 : Nat) : Int) < (src.length : Int)) = false := decide_eq_false (by omega)
  have hnone : src[i + 1]? = none := List.getElem?_eq_none (by omega)
  rw [hnone] at loop
  simp only [hw, hl, ↓RA1, ↓RT, ↓RG, RV, condG_yes, condG_no1, condG_no2, condG_undef, cond_true, cond_false, condP_false]
  have hl := loop (by unfold sgTwo; rfl)
  simp only [↓RA1, ↓RT, ↓RG, RV] at hl
  exact hl
end Go.Inv
namespace Go.Inv
open Go.Sh
theorem risName_ok (t : Bytes) (w : World) : Calls pr n_ref_isName #[.string (S t)] w (Is (.bool (varOf t).isSome) w) := by
 refine sh_ref_isName_ok _ _ _ ?_
 unfold sh_ref_isName
 match t with
 | [] =>
   simp only [↓RA1, ↓RT, ↓RG, RV, List.length_nil, show (((0 : Nat) : Int) == 1) = false from rfl, condG_yes, condG_no1, condG_no2, condG_undef, cond_true, cond_false]
   exact ⟨rfl, rfl⟩
 | c :: d :: r =>
   have : ((((c :: d :: r).length : Nat) : Int) == 1) = false := by simp; omega
   simp only [↓RA1, ↓RT, ↓RG, RV, this, condG_yes, condG_no1, condG_no2, condG_undef, cond_true, cond_false]
   exact ⟨rfl, rfl⟩
 | [c] =>
   have hc := c.toNat_lt
   simp only [↓RA1, ↓RT, ↓RG, RV, List.length_cons, List.length_nil, show (((0 + 1 : Nat) : Int) == 1) = true from rfl, condG_yes, condG_no1, condG_no2, condG_undef, cond_true, cond_false, strAt_lit0]
   by_cases h1 : (97 : Int) ≤ (c.toNat : Int)
   ·have d1 : decide (((c.toNat : Nat) : Int) ≥ 97) = true := decide_eq_true h1
    simp only [d1, ↓RA1, ↓RT, ↓RG, RV, condG_yes, condG_no1, condG_no2, condG_undef, cond_true, cond_false, strAt_lit0]
    refine ⟨?_, rfl⟩
    show _ = Ending.returned (Value.bool (if 97 ≤ c.toNat ∧ c.toNat ≤ 104 then some (c.toNat - 97) else none).isSome)
    by_cases h2 : c.toNat ≤ 104
    ·rw [if_pos ⟨by omega, h2⟩]; simp; omega
    ·rw [if_neg (by omega)]; simp; omega
   ·have d1 : decide (((c.toNat : Nat) : Int) ≥ 97) = false := decide_eq_false h1
    simp only [d1, ↓RA1, ↓RT, ↓RG, RV, condG_yes, condG_no1, condG_no2, condG_undef, cond_true, cond_false, strAt_lit0]
    refine ⟨?_, rfl⟩
    show _ = Ending.returned (Value.bool (if 97 ≤ c.toNat ∧ c.toNat ≤ 104 then some (c.toNat - 97) else none).isSome)
    rw [if_neg (by omega)]; rfl
def vLoop : Bytes → Nat → Option Nat
 | [], n => some n
 | c :: r, n => if digitB c then vLoop r (n * 10 + (c.toNat - 48)) else none
def valI (t : Bytes) : Int := if t = [] ∨ 5 < t.length ∨ (t.head? = some 48 ∧ 1 < t.length) then -1 else match vLoop t 0 with
 | some n => if n > 32767 then -1 else n
 | none => -1
theorem vLoop_big : ∀ (r : Bytes) (i n : Nat), 0 < i → 32767 < n → (numLoop r i n = none ∨ (∃ m, numLoop r i n = some m ∧ m > 32767))
 | [], i, n, _, h => .inr ⟨n, rfl, h⟩
 | c :: r, i, n, hi, h => .inl (by simp only [numLoop]; rw [if_pos (by simp; omega)])
theorem numLoop_v : ∀ (r : Bytes) (i n : Nat), 0 < i → 0 < n → n ≤ 32767 → (match numLoop r i n with | some m => if m > 32767 then none else some m | none => none) = (match vLoop r n with | some m => if m > 32767 then none else some m | none => none)
 | [], i, n, _, _, _ => rfl
 | c :: r, i, n, hi, hn, hb => by
   simp only [numLoop, vLoop]
   by_cases hd : digitB c = true
   ·rw [if_neg (by simp [hd]; omega), if_pos hd]
    by_cases hb2 : 10 * n + (c.toNat - 48) ≤ 32767
    ·have := numLoop_v r (i + 1) (10 * n + (c.toNat - 48)) (by omega) (by omega) hb2
     rw [this, Nat.mul_comm 10 n]
    ·have h1 := vLoop_big r (i + 1) (10 * n + (c.toNat - 48)) (by omega) (by omega)
     have h2 : ∀ (r : Bytes) (n : Nat), 32767 < n → (match vLoop r n with | some m => if m > 32767 then none else some m | none => (none : Option Nat)) = none := by
      intro r
      induction r with
      | nil => intro n h; simp only [vLoop]; rw [if_pos h]
      | cons c r ih =>
        intro n h
        simp only [vLoop]
        by_cases hd : digitB c = true
        ·rw [if_pos hd]; exact ih _ (by omega)
        ·rw [if_neg hd]
     rw [h2 r _ (by omega)]
     rcases h1 with h1 | ⟨m, h1, h3⟩
     ·rw [h1]
     ·rw [h1]; simp only; rw [if_pos h3]
   ·rw [if_pos (by simp [hd]), if_neg hd]
theorem vLoop_six : ∀ (r : Bytes) (n m : Nat), vLoop r n = some m → n * 10 ^ r.length ≤ m
 | [], n, m, h => by cases h; simp
 | c :: r, n, m, h => by
   simp only [vLoop] at h
   split at h
   ·have := vLoop_six r _ m h
    rw [List.length_cons, Nat.pow_succ]
    have h2 : n * 10 * 10 ^ r.length ≤ (n * 10 + (c.toNat - 48)) * 10 ^ r.length := Nat.mul_le_mul_right _ (by omega)
    rw [Nat.mul_comm (10 ^ r.length) 10, ← Nat.mul_assoc]; omega
   ·cases h
theorem valI_eq (t : Bytes) : valI t = numI t := by
 unfold valI numI numOf
 match t with
 | [] => simp [numLoop]
 | [c] =>
   simp only [numLoop, vLoop]
   by_cases hd : digitB c = true
   ·simp [hd]
    split
    ·rfl
    ·rfl
   ·simp [hd]
 | c :: d :: r =>
   by_cases h0 : c = 48
   ·subst h0
    rw [if_pos (.inr (.inr ⟨rfl, by simp⟩))]
    have : numLoop (48 :: d :: r) 0 0 = none := by
     simp only [numLoop]
     rw [if_neg (by decide), if_pos (by simp)]
    rw [this]
   ·by_cases hd : digitB c = true
    ·have hc : 48 ≤ c.toNat ∧ c.toNat ≤ 57 := by simpa [digitB] using hd
     have hn0 : 0 < c.toNat - 48 := by
      have : c.toNat ≠ 48 := fun h => h0 (UInt8.toNat_inj.1 h)
      omega
     have e1 : numLoop (c :: d :: r) 0 0 = numLoop (d :: r) 1 (c.toNat - 48) := by
      rw [numLoop, if_neg (by simp [hd])]; simp
     have e2 : vLoop (c :: d :: r) 0 = vLoop (d :: r) (c.toNat - 48) := by
      rw [vLoop, if_pos hd]; simp
     have key := numLoop_v (d :: r) 1 (c.toNat - 48) (by omega) hn0 (by omega)
     rw [e1]
     by_cases h5 : 5 < (c :: d :: r).length
     ·rw [if_pos (.inr (.inl h5))]
      have hv : ∀ m, vLoop (d :: r) (c.toNat - 48) = some m → 32767 < m := fun m hm => by
       have h6 := vLoop_six _ _ _ hm
       have h7 : 10 ^ 5 ≤ 10 ^ (d :: r).length := Nat.pow_le_pow_right (by decide) (by simp at h5 ⊢; omega)
       have h8 : 1 * 10 ^ 5 ≤ (c.toNat - 48) * 10 ^ (d :: r).length := Nat.mul_le_mul hn0 h7
       omega
      have hr : (match vLoop (d :: r) (c.toNat - 48) with | some m => if m > 32767 then none else some m | none => (none : Option Nat)) = none := by
       cases hm : vLoop (d :: r) (c.toNat - 48) with
       | none => rfl
       | some m => simp only; rw [if_pos (hv m hm)]
      rw [hr] at key
      cases hm : numLoop (d :: r) 1 (c.toNat - 48) with
      | none => rfl
      | some m =>
        rw [hm] at key
        simp only at key
        split at key
        ·rename_i hb; simp only; rw [if_pos (.inr hb)]
        ·cases key
     ·rw [if_neg (by simp at h5 ⊢; exact ⟨by omega, fun h => absurd h h0⟩), e2]
      cases hm : numLoop (d :: r) 1 (c.toNat - 48) with
      | none =>
        rw [hm] at key
        cases hv : vLoop (d :: r) (c.toNat - 48) with
        | none => rfl
        | some m =>
          rw [hv] at key
          simp only at key ⊢
          split at key
          ·rename_i hb; rw [if_pos hb]
          ·cases key
      | some m =>
        rw [hm] at key
        cases hv : vLoop (d :: r) (c.toNat - 48) with
        | none =>
          rw [hv] at key
          simp only at key ⊢
          split at key
          ·rename_i hb; rw [if_pos (.inr hb)]
          ·cases key
        | some m' =>
          rw [hv] at key
          simp only at key ⊢
          split at key
          ·rename_i hb
           split at key
           ·rename_i hb'; rw [if_pos hb', if_pos (.inr hb)]
           ·cases key
          ·rename_i hb
           split at key
           ·cases key
           ·rename_i hb'
            cases key
            rw [if_neg hb', if_neg (by simp; omega)]
    ·have e1 : numLoop (c :: d :: r) 0 0 = none := by rw [numLoop, if_pos (by simp [hd])]
     rw [e1]
     simp only [vLoop, hd]
     split <;> rfl
end Go.Inv
namespace Go.Inv
open Go.Sh
def VlI (t : Bytes) (w : World) (vs : List Value) (w' : World) : Prop := ∃ k n : Nat, vs = [vi n, vi k] ∧ k ≤ t.length ∧ w' = w ∧ n < 10 ^ k ∧ vLoop (t.drop k) n = vLoop t 0
def VlM (t : Bytes) (vs : List Value) (_ : World) : Nat := match vs with
 | [_, .int _ k] => t.length - k.toNat
 | _ => 0
theorem rvalue_ok {t : Bytes} (ht : t.length ≤ 400) (w : World) : Calls pr n_ref_value #[.string (S t)] w (Is (vi (numI t)) w) := by
 rw [← valI_eq]
 have neg : (t = [] ∨ 5 < t.length ∨ (t.head? = some 48 ∧ 1 < t.length)) → Is (vi (valI t)) w (.returned (vi (-1))) w := fun h => by unfold valI; rw [if_pos h]; exact ⟨rfl, rfl⟩
 have none_ : ¬ (t = [] ∨ 5 < t.length ∨ (t.head? = some 48 ∧ 1 < t.length)) → vLoop t 0 = none → Is (vi (valI t)) w (.returned (vi (-1))) w := fun h h2 => by unfold valI; rw [if_neg h, h2]; exact ⟨rfl, rfl⟩
 have some_ : ¬ (t = [] ∨ 5 < t.length ∨ (t.head? = some 48 ∧ 1 < t.length)) → ∀ n, vLoop t 0 = some n → Is (vi (valI t)) w (.returned (vi (if n > 32767 then -1 else (n : Int)))) w := fun h n h2 => by unfold valI; rw [if_neg h, h2]; exact ⟨rfl, rfl⟩
 generalize hR : Is (vi (valI t)) w = R at *
 refine sh_ref_value_ok _ _ _ ?_
 unfold sh_ref_value
 match t, ht with
 | [], _ =>
   simp only [↓RA1, ↓RT, ↓RG, RV, show (([] : Bytes) == []) = true from rfl, condG_yes, condG_no1, condG_no2, condG_undef, cond_true, cond_false, condP_true, condP_false]
   exact neg (.inl rfl)
 | c :: r, ht =>
   have e1 : ((c :: r : Bytes) == []) = false := rfl
   simp only [e1, ↓RA1, ↓RT, ↓RG, RV, condG_yes, condG_no1, condG_no2, condG_undef, cond_true, cond_false, condP_true, condP_false]
   by_cases h5 : 5 < (c :: r).length
   ·have d5 : decide ((((c :: r).length : Nat) : Int) > 5) = true := decide_eq_true (by omega)
    simp only [d5, ↓RA1, ↓RT, ↓RG, RV, condG_yes, condG_no1, condG_no2, condG_undef, cond_true, cond_false, condP_true, condP_false]
    exact neg (.inr (.inl h5))
   ·have d5 : decide ((((c :: r).length : Nat) : Int) > 5) = false := decide_eq_false (by omega)
    have b48 : ((((c.toNat : Nat) : Int)) == 48) = (c == 48) := bq c 48
    simp only [d5, b48, ↓RA1, ↓RT, ↓RG, RV, condG_yes, condG_no1, condG_no2, condG_undef, cond_true, cond_false, condP_true, condP_false, strAt_lit0]
    have loop : ¬ ((c :: r : Bytes) = [] ∨ 5 < (c :: r).length ∨ ((c :: r : Bytes).head? = some 48 ∧ 1 < (c :: r).length)) → ∃ (I1 : List Value → World → Prop) (m1 : List Value → World → Nat), I1 [(Value.int IntKind.i64 0), (Value.int IntKind.i64 0)] w ∧
     ∀ (e1 : Nat → Value) w1, I1 [e1 3, e1 4] w1 → (fun w =>
     o pr (fun c w => R (.panicked c) w) w (sB .len [9] 3 [.string (S (c :: r))]) fun t24 w =>
     o pr (fun c w => R (.panicked c) w) w (sBin .lss 3 (e1 4) t24 3) fun t25 w =>
     condP t25 (o pr (fun c w => R (.panicked c) w) w (sIdx 9 (.string (S (c :: r))) (e1 4)) fun t30 w =>
     cl pr (fun c w => R (.panicked c) w) w n_ref_isDigit #[t30] fun t31 w =>
     o pr (fun c w => R (.panicked c) w) w (sUn .not 4 t31) fun t32 w =>
     condP t32 (R (.returned (Value.int IntKind.i64 (-1))) w)
      (o pr (fun c w => R (.panicked c) w) w (sBinC .mul 3 (e1 3) (Value.int IntKind.i64 10) 3) fun t34 w =>
     o pr (fun c w => R (.panicked c) w) w (sIdx 9 (.string (S (c :: r))) (e1 4)) fun t37 w =>
     o pr (fun c w => R (.panicked c) w) w (sBinC .sub 5 t37 (Value.int IntKind.u8 48) 5) fun t38 w =>
     o pr (fun c w => R (.panicked c) w) w (sConv 5 3 t38) fun t39 w =>
     o pr (fun c w => R (.panicked c) w) w (sBin .add 3 t34 t39 3) fun t40 w =>
     o pr (fun c w => R (.panicked c) w) w (sBinC .add 3 (e1 4) (Value.int IntKind.i64 1) 3) fun t27 w =>
     I1 [t40, t27] w ∧ m1 [t40, t27] w < m1 [e1 3, e1 4] w1))
      (o pr (fun c w => R (.panicked c) w) w (sBinC .gtr 3 (e1 3) (Value.int IntKind.i64 32767) 3) fun t42 w =>
     condP t42 (R (.returned (Value.int IntKind.i64 (-1))) w)
      (R (.returned (e1 3)) w))) w1 := fun hn => by
     refine ⟨VlI (c :: r) w, VlM (c :: r), ⟨0, 0, rfl, by omega, rfl, by simp, rfl⟩, ?_⟩
     rintro e1 w1 ⟨k, n, he, hk, rfl, hb, hl⟩
     have e3 : e1 3 = vi n := by simpa using (List.cons.inj he).1
     have e4 : e1 4 = vi k := by simpa using (List.cons.inj (List.cons.inj he).2).1
     have hk5 : k ≤ 5 := by omega
     have hp : 10 ^ k ≤ 10 ^ 5 := Nat.pow_le_pow_right (by decide) hk5
     rw [e3, e4]
     simp only [↓RA1, ↓RT, ↓RG, RV]
     refine condJr (p := k < (c :: r).length) (by simp only [decide_eq_decide]; omega) (fun hlt => ?_) (fun hlt => ?_)
     ·obtain ⟨d, hd⟩ : ∃ d, (c :: r)[k]? = some d := ⟨(c :: r)[k], List.getElem?_eq_getElem hlt⟩
      have hdrop : (c :: r).drop k = d :: (c :: r).drop (k + 1) := by
       rw [List.drop_eq_getElem_cons hlt]; congr 1
       exact (List.getElem?_eq_some_iff.1 hd).2
      have hdb := d.toNat_lt
      simp only [strAt_nat hd, ↓RA1, ↓RT, ↓RG, RV]
      refine cl_of (rdigit_ok d _) ?_
      rintro _ w2 ⟨rfl, rfl⟩
      simp only [endK, ↓RA1, ↓RT, ↓RG, RV]
      cases hdg : digitB d with
      | false =>
        simp only [Bool.not_false, condP_true]
        refine none_ hn ?_
        rw [← hl, hdrop]; simp only [vLoop, hdg]; rfl
      | true =>
        have h48 : 48 ≤ d.toNat := by simp [digitB] at hdg; omega
        have hw1 : IntKind.i64.wrap ((n : Int) * 10) = ((n * 10 : Nat) : Int) := by rw [wrap64 (by omega) (by omega)]; omega
        have hw2 : IntKind.i64.wrap (((n * 10 : Nat) : Int) + ((d.toNat - 48 : Nat) : Int)) = ((n * 10 + (d.toNat - 48) : Nat) : Int) := by rw [wrap64 (by omega) (by omega)]; omega
        have hw3 : IntKind.i64.wrap ((k : Int) + 1) = ((k + 1 : Nat) : Int) := by rw [wrap64 (by omega) (by omega)]; omega
        simp only [Bool.not_true, condP_false, ↓RA1, ↓RT, ↓RG, RV, strAt_nat hd, hw1, wrap8_sub48 h48 (by omega), wrap64_nat (show d.toNat - 48 ≤ 1000000000 by omega), hw2, hw3]
        refine ⟨⟨k + 1, n * 10 + (d.toNat - 48), rfl, hlt, rfl, ?_, ?_⟩, by simp only [VlM, Int.toNat_natCast]; omega⟩
        ·have hd9 : d.toNat ≤ 57 := by simp [digitB] at hdg; omega
         rw [Nat.pow_succ]; omega
        ·rw [← hl, hdrop]; simp only [vLoop, hdg, if_true]
     ·have hkk : k = (c :: r).length := by omega
      have hv : vLoop (c :: r) 0 = some n := by rw [← hl, hkk, List.drop_length]; rfl
      have := some_ hn n hv
      refine condJr (p := n > 32767) (by simp only [decide_eq_decide]; omega) (fun h => ?_) (fun h => ?_)
      ·rw [if_pos h] at this; exact this
      ·rw [if_neg h] at this; exact this
    cases h48 : (c == 48) with
    | true =>
      have hc : c = 48 := by simpa using h48
      by_cases h1 : 1 < (c :: r).length
      ·have d1 : decide ((((c :: r).length : Nat) : Int) > 1) = true := decide_eq_true (by omega)
       simp only [d1, ↓RA1, ↓RT, ↓RG, RV, condG_yes, condG_no1, condG_no2, condG_undef, cond_true, cond_false, condP_true, condP_false]
       exact neg (.inr (.inr ⟨by rw [hc]; rfl, h1⟩))
      ·have d1 : decide ((((c :: r).length : Nat) : Int) > 1) = false := decide_eq_false (by omega)
       simp only [d1, ↓RA1, ↓RT, ↓RG, RV, condG_yes, condG_no1, condG_no2, condG_undef, cond_true, cond_false, condP_true, condP_false]
       have hl := loop (by simp; simp at h5 h1; exact ⟨h5, fun _ => by simpa using h1⟩)
       simp only [↓RA1, ↓RT, ↓RG, RV] at hl
       exact hl
    | false =>
      have hc : c ≠ 48 := by simpa using h48
      simp only [↓RA1, ↓RT, ↓RG, RV, condG_yes, condG_no1, condG_no2, condG_undef, cond_true, cond_false, condP_true, condP_false]
      have hl := loop (by simp; simp at h5; exact ⟨h5, fun h => absurd h hc⟩)
      simp only [↓RA1, ↓RT, ↓RG, RV] at hl
      exact hl
end Go.Inv
namespace Go.Inv
open Go.Sh
def RfP (src : Bytes) (B r p : Nat) (w : World) (v : Value) (s : RF) : Ending → World → Prop := fun e w' => e = .returned v ∧ FrB B r p w w' ∧ RfAt src B r p w' s
theorem rwrong_ok {src : Bytes} {B r p : Nat} {w : World} {s : RF} (h : RfAt src B r p w s) (e : Nat) : Calls pr n_ref_Reader_wrong #[pt r 0, vi e] w (RfP src B r p w (.tuple #[]) (wrongF e s)) := by
 refine sh_ref_Reader_wrong_ok _ _ _ _ ?_
 unfold sh_ref_Reader_wrong
 have hr := h.hr
 simp only [↓RA1, ↓RT, ↓RG, RV, GR, hr]
 refine condJr (p := s.err = 0) (by by_cases hh : s.err = 0 <;> simp [hh]) (fun h0 => ?_) (fun h0 => ?_)
 ·refine ⟨rfl, (FrB.refl B r p w).putR h.rB h.ne, ?_⟩
  unfold wrongF; rw [if_pos h0]
  exact h.setR rfl rfl rfl rfl rfl
 ·refine ⟨rfl, FrB.refl B r p w, ?_⟩
  unfold wrongF; rw [if_neg h0]; exact h
theorem bd_Tok (a : Int) (s : ByteArray) (w : World) : (sBuild 147 [(0, vi a), (1, .string s)]).run pr w = .ok (.value (.agg #[vi a, .string s])) w := by kernel_rfl
def RsI (src : Bytes) (w : World) (i0 : Nat) (f : UInt8 → Bool) (vs : List Value) (w' : World) : Prop := ∃ k : Nat, vs = [vi k] ∧ k ≤ src.length ∧ w' = w ∧ runTo f src k = runTo f src i0
def RsM (src : Bytes) (vs : List Value) (_ : World) : Nat := match vs with
 | [.int _ k] => src.length - k.toNat
 | _ => 0
def RsJ (src : Bytes) (w : World) (k : Nat) (vs : List Value) (w' : World) : Prop := vs = [vi (k + tokLen (src.drop k) : Nat)] ∧ Old w w'
theorem tok_end (src : Bytes) {k : Nat} (hk : k ≤ src.length) : k + tokLen (src.drop k) ≤ src.length := by
 have := tokLen_le (src.drop k)
 rw [List.length_drop] at this; omega
theorem rstep_ok {src : Bytes} {B r p : Nat} {w : World} {s : RF} (h : RfAt src B r p w s) (hen : s.en ≤ src.length) (hs : src.length ≤ 400) : Calls pr n_ref_Reader_step #[pt r 0] w (RfP src B r p w (.tuple #[]) (stepF src s)) := by
 refine sh_ref_Reader_step_ok _ _ _ ?_
 unfold sh_ref_Reader_step
 have hr := h.hr
 simp only [↓RA1, ↓RT, ↓RG, RV, GR, hr]
 refine ⟨RsI src w s.en blankB, RsM src, ⟨s.en, rfl, hen, rfl, rfl⟩, ?_⟩
 rintro e1 w1 ⟨k, he, hk, rfl, hrun⟩
 have e2 : e1 2 = vi k := by simpa using he
 have hwk : IntKind.i64.wrap ((k : Int) + 1) = ((k + 1 : Nat) : Int) := by rw [wrap64 (by omega) (by omega)]; omega
 rw [e2]
 -- behind the token
 have fin : skipB src s.en = k → ∀ w', Old w1 w' → (w'.heap[r]? = some (.cells #[.string (S src), vi s.en, vi s.at_, .string (S s.txt), pt p 0, vi s.op, vi s.err] tyRf (0, 0))) ∧
  strCut src (k : Int) ((k + tokLen (src.drop k) : Nat) : Int) = some (.string (S ((src.take (k + tokLen (src.drop k))).drop k))) ∧
  RfP src B r p w1 (.tuple #[]) (stepF src s) (.returned (.tuple #[])) (put (put (put w' r 2 (vi k)) r 3 (.string (S ((src.take (k + tokLen (src.drop k))).drop k)))) r 1 (vi (k + tokLen (src.drop k) : Nat))) ∧
  okCell ((put (put w' r 2 (vi k)) r 3 (.string (S ((src.take (k + tokLen (src.drop k))).drop k)))).heap[r]?) 1 = true := fun hsk w' ho => by
  have h2 := h.old ho
  have hle := tok_end src hk
  have s1 := h2.setR (s' := { s with at_ := k }) (i := 2) (v := vi k) rfl rfl rfl rfl rfl
  have s2 := s1.setR (s' := { s with at_ := k, txt := (src.take (k + tokLen (src.drop k))).drop k }) (i := 3) (v := .string (S ((src.take (k + tokLen (src.drop k))).drop k))) rfl rfl rfl rfl rfl
  have s3 := s2.setR (s' := { s with at_ := k, txt := (src.take (k + tokLen (src.drop k))).drop k, en := k + tokLen (src.drop k) }) (i := 1) (v := vi (k + tokLen (src.drop k) : Nat)) rfl rfl rfl rfl rfl
  refine ⟨h2.hr, ?_, ⟨rfl, (((FrB.of_old ho h.wB h.pl).putR h.rB h.ne).putR h.rB h.ne).putR h.rB h.ne, ?_⟩, by rw [s2.hr]; rfl⟩
  ·unfold strCut
   rw [if_pos (by omega)]
   unfold piece
   rw [Int.toNat_natCast, Int.toNat_natCast]
  ·unfold stepF; rw [hsk]; exact s3
 by_cases hlt : k < src.length
 ·obtain ⟨c, hc⟩ : ∃ c, src[k]? = some c := ⟨src[k], by simp [hlt]⟩
  have hd : decide ((k : Int) < (src.length : Int)) = true := by simp [hlt]
  simp only [hd, ↓RA1, ↓RT, ↓RG, RV, GR, CG, cond_true, cond_false, hr, strAt_nat hc, bqs]
  cases h32 : c == 32 with
  | true =>
    simp only [↓RA1, ↓RT, ↓RG, RV, GR, CG, cond_true, cond_false, hr, hwk]
    exact ⟨⟨k + 1, rfl, by omega, rfl, by rw [← runTo_step hc (by rw [blankB_eq, h32]; rfl)]; exact hrun⟩, by simp [RsM]; omega⟩
  | false =>
    simp only [↓RA1, ↓RT, ↓RG, RV, GR, CG, cond_true, cond_false, hr, strAt_nat hc, bqs]
    cases h10 : c == 10 with
    | true =>
      simp only [↓RA1, ↓RT, ↓RG, RV, GR, CG, cond_true, cond_false, hr, hwk]
      exact ⟨⟨k + 1, rfl, by omega, rfl, by rw [← runTo_step hc (by rw [blankB_eq, h10]; simp)]; exact hrun⟩, by simp [RsM]; omega⟩
    | false =>
      have hk' : skipB src s.en = k := by rw [skipB_eq, ← hrun]; exact runTo_stop hc (by rw [blankB_eq, h32, h10]; rfl)
      simp only [↓RA1, ↓RT, ↓RG, RV, GR, CG, cond_true, cond_false, hr]
      refine ⟨RsJ src w1 k, ?_, ?_⟩
      ·rintro e4 w' ⟨hv, ho⟩
       have e43 : e4 3 = vi (k + tokLen (src.drop k) : Nat) := by simpa using hv
       obtain ⟨hr2, hcut, hfin, hok⟩ := fin hk' w' ho
       rw [e43]
       simp only [hr2, hcut, hok, ↓o_val (bd_Tok _ _ _), ↓RA1, ↓RT, ↓RG, RV, GR, isOne, List.all_cons, List.all_nil, Bool.and_self, decide_true, ifc_true, putL]
       exact hfin
      try simp only [hd, ↓RA1, ↓RT, ↓RG, RV, GR, CG, cond_true, cond_false, hr, strAt_nat hc]
      refine cl_of (rletter_ok c _) ?_
      rintro _ w4 ⟨rfl, rfl⟩
      simp only [endK]
      cases hl : letterB c with
      | true =>
        simp only [CG, cond_true, cond_false]
        refine ⟨RsI src w4 k letterB, RsM src, ⟨k, rfl, by omega, rfl, rfl⟩, ?_⟩
        rintro e3 w5 ⟨j, he, hj, rfl, hru⟩
        have e33 : e3 3 = vi j := by simpa using he
        have hwj : IntKind.i64.wrap ((j : Int) + 1) = ((j + 1 : Nat) : Int) := by rw [wrap64 (by omega) (by omega)]; omega
        rw [e33]
        by_cases hjl : j < src.length
        ·obtain ⟨d, hdd⟩ : ∃ d, src[j]? = some d := ⟨src[j], by simp [hjl]⟩
         have hdj : decide ((j : Int) < (src.length : Int)) = true := by simp [hjl]
         simp only [hdj, ↓RA1, ↓RT, ↓RG, RV, GR, CG, cond_true, cond_false, hr, strAt_nat hdd]
         refine cl_of (rletter_ok d _) ?_
         rintro _ w6 ⟨rfl, rfl⟩
         simp only [endK]
         cases hld : letterB d with
         | true =>
           simp only [↓RA1, ↓RT, ↓RG, RV, GR, CG, cond_true, cond_false, hr, hwj]
           exact ⟨⟨j + 1, rfl, by omega, rfl, by rw [← runTo_step hdd hld]; exact hru⟩, by simp [RsM]; omega⟩
         | false =>
           simp only [↓RA1, ↓RT, ↓RG, RV, GR, CG, cond_true, cond_false, hr]
           refine ⟨?_, Old.refl _⟩
           rw [tokLen_letter hc hl, ← hru, runTo_stop hdd hld]
        ·have hdj : decide ((j : Int) < (src.length : Int)) = false := by simp; omega
         simp only [hdj, ↓RA1, ↓RT, ↓RG, RV, GR, CG, cond_true, cond_false, hr]
         refine ⟨?_, Old.refl _⟩
         rw [tokLen_letter hc hl, ← hru, runTo_end (by omega)]
      | false =>
        simp only [CG, cond_true, cond_false, ↓RA1, ↓RT, ↓RG, RV, GR, hr, strAt_nat hc]
        refine cl_of (rdigit_ok c _) ?_
        rintro _ w4' ⟨rfl, rfl⟩
        simp only [endK]
        cases hdg : digitB c with
        | true =>
          simp only [CG, cond_true, cond_false]
          refine ⟨RsI src w4' k digitB, RsM src, ⟨k, rfl, by omega, rfl, rfl⟩, ?_⟩
          rintro e3 w5 ⟨j, he, hj, rfl, hru⟩
          have e33 : e3 3 = vi j := by simpa using he
          have hwj : IntKind.i64.wrap ((j : Int) + 1) = ((j + 1 : Nat) : Int) := by rw [wrap64 (by omega) (by omega)]; omega
          rw [e33]
          by_cases hjl : j < src.length
          ·obtain ⟨d, hdd⟩ : ∃ d, src[j]? = some d := ⟨src[j], by simp [hjl]⟩
           have hdj : decide ((j : Int) < (src.length : Int)) = true := by simp [hjl]
           simp only [hdj, ↓RA1, ↓RT, ↓RG, RV, GR, CG, cond_true, cond_false, hr, strAt_nat hdd]
           refine cl_of (rdigit_ok d _) ?_
           rintro _ w6 ⟨rfl, rfl⟩
           simp only [endK]
           cases hld : digitB d with
           | true =>
             simp only [↓RA1, ↓RT, ↓RG, RV, GR, CG, cond_true, cond_false, hr, hwj]
             exact ⟨⟨j + 1, rfl, by omega, rfl, by rw [← runTo_step hdd hld]; exact hru⟩, by simp [RsM]; omega⟩
           | false =>
             simp only [↓RA1, ↓RT, ↓RG, RV, GR, CG, cond_true, cond_false, hr]
             refine ⟨?_, Old.refl _⟩
             rw [tokLen_digit hc hl hdg, ← hru, runTo_stop hdd hld]
          ·have hdj : decide ((j : Int) < (src.length : Int)) = false := by simp; omega
           simp only [hdj, ↓RA1, ↓RT, ↓RG, RV, GR, CG, cond_true, cond_false, hr]
           refine ⟨?_, Old.refl _⟩
           rw [tokLen_digit hc hl hdg, ← hru, runTo_end (by omega)]
        | false =>
          simp only [CG, cond_true, cond_false, ↓RA1, ↓RT, ↓RG, RV, GR, hr]
          refine cl_of (rsign_ok hc hs _) ?_
          rintro _ w5 ⟨rfl, ho5⟩
          obtain ⟨ht, hdrop⟩ := tokLen_sign hc hl hdg
          have hsl : signLen (src.drop k) ≤ 400 := by
           have h1 := signLen_le (src.drop k); rw [List.length_drop] at h1; omega
          have hw : IntKind.i64.wrap ((k : Int) + (signLen (src.drop k) : Nat)) = ((k + signLen (src.drop k) : Nat) : Int) := by
           rw [wrap64 (by omega) (by omega)]; omega
          simp only [endK, CG, cond_true, cond_false, ↓RA1, ↓RT, ↓RG, RV, hw]
          refine ⟨?_, ho5⟩
          rw [ht, hdrop]
 ·have hk' : skipB src s.en = k := by rw [skipB_eq, ← hrun]; exact runTo_end (by omega)
  have hd : decide ((k : Int) < (src.length : Int)) = false := by simp; omega
  simp only [hd, ↓RA1, ↓RT, ↓RG, RV, GR, CG, cond_true, cond_false, hr]
  refine ⟨RsJ src w1 k, ?_, ?_⟩
  ·rintro e4 w' ⟨hv, ho⟩
   have e43 : e4 3 = vi (k + tokLen (src.drop k) : Nat) := by simpa using hv
   obtain ⟨hr2, hcut, hfin, hok⟩ := fin hk' w' ho
   rw [e43]
   simp only [hr2, hcut, hok, ↓o_val (bd_Tok _ _ _), ↓RA1, ↓RT, ↓RG, RV, GR, isOne, List.all_cons, List.all_nil, Bool.and_self, decide_true, ifc_true, putL]
   exact hfin
  try simp only [hd, ↓RA1, ↓RT, ↓RG, RV, GR, CG, cond_true, cond_false, hr]
  refine ⟨?_, Old.refl _⟩
  rw [tokLen_nil (by omega)]; rfl
end Go.Inv
namespace Go.Inv
open Go.Sh
theorem bSS (a b : Bytes) : (a != b) = !(a == b) := rfl
theorem rtake_ok {src t : Bytes} {B r p : Nat} {w : World} {s : RF} (h : RfAt src B r p w s) (hen : s.en ≤ src.length) (hs : src.length ≤ 400) : Calls pr n_ref_Reader_take #[pt r 0, .string (S t)] w (RfP src B r p w (.tuple #[]) (takeF src t s)) := by
 refine sh_ref_Reader_take_ok _ _ _ _ ?_
 unfold sh_ref_Reader_take
 have hr := h.hr
 simp only [↓RA1, ↓RT, ↓RG, RV, GR, Nat.reduceAdd, hr]
 refine condJr (p := s.err ≠ 0) (by by_cases hh : s.err = 0 <;> simp [hh]) (fun h0 => ?_) (fun h0 => ?_)
 ·rw [take_err h0]; exact ⟨rfl, FrB.refl B r p w, h⟩
 ·have h0 : s.err = 0 := by omega
  try simp only [↓RA1, ↓RT, ↓RG, RV, GR, Nat.reduceAdd, hr]
  refine condJr (p := s.txt ≠ t) (by by_cases hh : s.txt = t <;> simp [hh]) (fun h1 => ?_) (fun h1 => ?_)
  ·refine cl_of (rwrong_ok h 2) ?_
   rintro _ w2 ⟨rfl, hf, h2⟩
   simp only [endK]
   rw [take_no h0 h1]; exact ⟨rfl, hf, h2⟩
  ·refine cl_of (rstep_ok h hen hs) ?_
   rintro _ w2 ⟨rfl, hf, h2⟩
   simp only [endK]
   rw [take_yes h0 (by simpa using h1)]; exact ⟨rfl, hf, h2⟩
theorem deep_at {t : Bytes} {s : RF} : (deepF t s).en = s.en ∧ (deepF t s).txt = s.txt := by
 unfold deepF wrongF
 split
 ·split <;> exact ⟨rfl, rfl⟩
 ·exact ⟨rfl, rfl⟩
def OpJ (src : Bytes) (B r p : Nat) (w0 : World) (s : RF) (vs : List Value) (w : World) : Prop := FrB B r p w0 w ∧ RfAt src B r p w s
theorem ropen_ok {src t : Bytes} {B r p : Nat} {w : World} {s : RF} (h : RfAt src B r p w s) (hen : s.en ≤ src.length) (hs : src.length ≤ 400) (ho : -1000 ≤ s.op ∧ s.op ≤ 1000) : Calls pr n_ref_Reader_open #[pt r 0, .string (S t)] w (RfP src B r p w (.tuple #[]) (openF src t s)) := by
 refine sh_ref_Reader_open_ok _ _ _ _ ?_
 unfold sh_ref_Reader_open
 have hr := h.hr
 refine ⟨OpJ src B r p w (deepF t s), ?_, ?_⟩
 ·rintro e1 w1 ⟨hf, h1⟩
  refine cl_of (rtake_ok h1 (by rw [deep_at.1]; exact hen) hs) ?_
  rintro _ w2 ⟨rfl, hf2, h2⟩
  have hr2 := h2.hr
  have hop : (takeF src t (deepF t s)).op = s.op := by rw [take_op, deep_op]
  have hwr : IntKind.i64.wrap ((takeF src t (deepF t s)).op + 1) = (takeF src t (deepF t s)).op + 1 := by rw [hop]; exact wrap64 (by omega) (by omega)
  simp only [endK, ↓RA1, ↓RT, ↓RG, RV, GR, Nat.reduceAdd, hr2, hwr]
  exact ⟨rfl, (hf.trans hf2).putR h2.rB h2.ne, h2.setR rfl rfl rfl rfl rfl⟩
 ·have no : ¬ (s.err = 0 ∧ s.txt = t ∧ 12 ≤ s.op) → OpJ src B r p w (deepF t s) [] w := fun hn => by
   unfold deepF; rw [if_neg hn]; exact ⟨FrB.refl B r p w, h⟩
  have yes : (s.err = 0 ∧ s.txt = t ∧ 12 ≤ s.op) → cl pr (fun c w1 => RfP src B r p w (.tuple #[]) (openF src t s) (.panicked c) w1) w n_ref_Reader_wrong #[pt r 0, vi 3] fun _ w1 => OpJ src B r p w (deepF t s) [] w1 := fun hy => by
   refine cl_of (rwrong_ok h 3) ?_
   rintro _ w2 ⟨rfl, hf, h2⟩
   simp only [endK]
   unfold deepF; rw [if_pos hy]; exact ⟨hf, h2⟩
  simp only [↓RA1, ↓RT, ↓RG, RV, GR, Nat.reduceAdd, hr]
  by_cases h0 : s.err = 0
  ·have z0 : ((s.err : Int) == 0) = true := by simp [h0]
   simp only [z0, ↓RA1, ↓RT, ↓RG, RV, GR, Nat.reduceAdd, CG, cond_true, cond_false, hr]
   by_cases h1 : s.txt = t
   ·have z1 : (s.txt == t) = true := by simp [h1]
    try simp only [z1, ↓RA1, ↓RT, ↓RG, RV, GR, Nat.reduceAdd, CG, cond_true, cond_false, hr]
    refine condJr (p := 12 ≤ s.op) rfl (fun h2 => ?_) (fun h2 => ?_)
    ·exact yes ⟨h0, h1, h2⟩
    ·exact no (fun hh => h2 hh.2.2)
   ·have z1 : (s.txt == t) = false := by simp [h1]
    try simp only [z1, ↓RA1, ↓RT, ↓RG, RV, GR, Nat.reduceAdd, CG, cond_true, cond_false, hr]
    exact no (fun hh => h1 hh.2.1)
  ·have z0 : ((s.err : Int) == 0) = false := by simp; omega
   simp only [z0, ↓RA1, ↓RT, ↓RG, RV, GR, Nat.reduceAdd, CG, cond_true, cond_false, hr]
   exact no (fun hh => h0 hh.1)
theorem rshut_ok {src t : Bytes} {B r p : Nat} {w : World} {s : RF} (h : RfAt src B r p w s) (hen : s.en ≤ src.length) (hs : src.length ≤ 400) (ho : -1000 ≤ s.op ∧ s.op ≤ 1000) : Calls pr n_ref_Reader_shut #[pt r 0, .string (S t)] w (RfP src B r p w (.tuple #[]) (shutF src t s)) := by
 refine sh_ref_Reader_shut_ok _ _ _ _ ?_
 unfold sh_ref_Reader_shut
 refine cl_of (rtake_ok h hen hs) ?_
 rintro _ w2 ⟨rfl, hf2, h2⟩
 have hr2 := h2.hr
 have hop : (takeF src t s).op = s.op := take_op _ _ _
 have hwr : IntKind.i64.wrap ((takeF src t s).op - 1) = (takeF src t s).op - 1 := by rw [hop]; exact wrap64 (by omega) (by omega)
 simp only [endK, ↓RA1, ↓RT, ↓RG, RV, GR, Nat.reduceAdd, hr2, hwr]
 exact ⟨rfl, hf2.putR h2.rB h2.ne, h2.setR rfl rfl rfl rfl rfl⟩
theorem slNd : ∃ by_, CellSl pr 90 tyNd 10 by_ ∧ by_ ≤ 1000 := ⟨88, cellSl_of (by kernel_rfl), by decide⟩
theorem bs_Nd (x : Nd) (w : World) : (sBuildSlice 90 1 [(0, x.v)]).run pr w = .ok (.value (.slice (some ⟨w.heap.size, 0, none⟩) 1 1)) (w.alloc (.cells #[vi x.kind, vi x.a, vi x.b, vi x.c, vi x.n, vi x.next, .string (S x.sign), vi x.site, vi x.point, .bool x.els] tyNd)) := by kernel_rfl
theorem NdsAt.blk {B : Nat} {w : World} {v : Value} {ns : List Nd} (g : NdsAt B w v ns) {k : Nat} (hk : v.ownBlock = some k) : B ≤ k ∧ ∃ cs f, w.heap[k]? = some (.cells cs tyNd f) := by
 rcases g.2 with ⟨rfl, _⟩ | ⟨nb, cap, c, rfl, h2, h3, _⟩
 ·cases hk
 ·cases hk; exact ⟨h2, _, _, h3⟩
theorem NdsAt.grown_keep {B : Nat} {w w' : World} {v : Value} {ns : List Nd} (g : NdsAt B w v ns) (hg : w.grownBy w' v.ownBlock) {i : Nat} {x : Obj} (hi : w.heap[i]? = some x) (hx : ∀ cs f, x ≠ .cells cs tyNd f) : w'.heap[i]? = some x := by
 rw [hg.block i (lt_of_heap hi) (fun e => by
  obtain ⟨_, cs', f', h6⟩ := g.blk e.symm
  rw [hi] at h6; cases h6; exact hx _ _ rfl)]
 exact hi
theorem nd_flat (ns : List Nd) (x : Nd) : (ns ++ [x]).flatMap Nd.l = ns.flatMap Nd.l ++ [vi x.kind, vi x.a, vi x.b, vi x.c, vi x.n, vi x.next, .string (S x.sign), vi x.site, vi x.point, .bool x.els] := by
 simp [Nd.l]
theorem rnode_ok {src : Bytes} {B r p : Nat} {w : World} {s : RF} (h : RfAt src B r p w s) (x : Nd) (hn : s.ns.length ≤ 1000000) : Calls pr n_ref_Reader_node #[pt r 0, x.v] w (RfP src B r p w (vi (nodeF x s).2) (nodeF x s).1) := by
 refine sh_ref_Reader_node_ok _ _ _ _ ?_
 unfold sh_ref_Reader_node
 have ho1 : Old w (w.alloc (.cells x.v.cells 151)) := (Old.refl w).alloc _
 have b1 : blkRow ((w.alloc (.cells x.v.cells 151)).heap[w.heap.size]?) 0 10 = some x.v := by
  rw [heap_alloc_self]; rfl
 have h1 := h.old ho1
 simp only [↓RA1, ↓RT, ↓RG, RV]
 generalize w.alloc (.cells x.v.cells 151) = w1 at *
 obtain ⟨nv, kv, g1, g2, g3⟩ := h1.pg
 have hr1 := h1.hr
 have ho2 : Old (dr w1) ((dr w1).alloc (.cells #[vi x.kind, vi x.a, vi x.b, vi x.c, vi x.n, vi x.next, .string (S x.sign), vi x.site, vi x.point, .bool x.els] tyNd)) := (Old.refl _).alloc _
 have b2 : ((dr w1).alloc (.cells #[vi x.kind, vi x.a, vi x.b, vi x.c, vi x.n, vi x.next, .string (S x.sign), vi x.site, vi x.point, .bool x.els] tyNd)).heap[(dr w1).heap.size]? = some (.cells #[vi x.kind, vi x.a, vi x.b, vi x.c, vi x.n, vi x.next, .string (S x.sign), vi x.site, vi x.point, .bool x.els] tyNd (0, 0)) := heap_alloc_self _
 have h2 := h1.dr.old ho2
 simp only [↓RA1, ↓RT, ↓RG, RV, GR, Nat.reduceAdd, hr1, g1, b1, ↓o_val (bs_Nd x _)]
 have hr2 := h2.hr
 obtain ⟨nv2, kv2, e1, e2, e3⟩ := h2.pg
 have e1' := ho2.heap (show (dr w1).heap[p]? = _ from g1)
 rw [e1'] at e1
 obtain ⟨rfl, rfl⟩ : nv = nv2 ∧ kv = kv2 := by
  injection e1 with e1; injection e1 with e1; simpa using e1
 generalize (dr w1).alloc (.cells #[vi x.kind, vi x.a, vi x.b, vi x.c, vi x.n, vi x.next, .string (S x.sign), vi x.site, vi x.point, .bool x.els] tyNd) = w2 at *
 simp only [↓RA1, ↓RT, ↓RG, RV, GR, Nat.reduceAdd, hr2, e1']
 obtain ⟨by_, hsl, hby⟩ := slNd
 refine o_appendK2 (us := [vi x.kind, vi x.a, vi x.b, vi x.c, vi x.n, vi x.next, .string (S x.sign), vi x.site, vi x.point, .bool x.els]) hsl (by omega) e2 b2 rfl (by simp [Value.oneCell']) (by simp only [maxLen]; omega) (by
  have := Nat.mul_le_mul (show s.ns.length + 1 ≤ 1000001 by omega) hby; omega) h2.wB ?_
 intro v' w4 hown hg hblk
 have hr4 : w4.heap[r]? = _ := NdsAt.grown_keep e2 hg hr2 (fun _ _ e => by injection e with _ e; exact absurd e (by decide))
 have hp4 : w4.heap[p]? = _ := NdsAt.grown_keep e2 hg e1' (fun _ _ e => by injection e with _ e; exact absurd e (by decide))
 have hown1 : isOne v' = true := by rcases hown.2 with ⟨rfl, _⟩ | ⟨nb, cap, c, rfl, _⟩ <;> rfl
 have hlen : ∃ a c, v' = .slice a (s.ns.length + 1) c := by
  rcases hown.2 with ⟨rfl, h0⟩ | ⟨nb, cap, c, rfl, _⟩
  ·exact absurd h0 (by omega)
  ·exact ⟨_, _, rfl⟩
 obtain ⟨a', c', hv'⟩ := hlen
 have hw : IntKind.i64.wrap (((s.ns.length + 1 : Nat) : Int) - 1) = ((s.ns.length : Nat) : Int) := by rw [wrap64 (by omega) (by omega)]; omega
 have hokp : okCell (w4.heap[p]?) 0 = true := by rw [hp4]; rfl
 have hB : FrB B r p w (put w4 p 0 v') := ((FrB.of_old ho1 h.wB h.pl).trans ((FrB.refl B r p w1).dr.trans (FrB.of_old ho2 h1.wB h1.pl))).trans (FrB.grow0 h2.pB h2.wB (fun k hk => (NdsAt.blk e2 hk).1) e1' hg hp4 hblk)
 have fin : RfAt src B r p (put w4 p 0 v') (nodeF x s).1 := by
  have hne : r ≠ p := h2.ne
  refine ⟨by rw [heap_put_ne hne]; exact hr4, ⟨v', kv, by rw [heap_put_self, hp4, map_setObj]; rfl, ?_, ?_⟩, h2.rB, h2.pB, by rw [size_put]; have := hg.size; have := h2.wB; omega⟩
  ·unfold NdsAt
   show World.ownsRow _ B tyNd 10 v' (s.ns ++ [x]).length ((s.ns ++ [x]).flatMap Nd.l)
   rw [nd_flat, List.length_append]
   refine row_keep hown fun c cs hcs => ?_
   have : c ≠ p := fun e => by rw [e, hp4] at hcs; injection hcs with hh; injection hh with _ hh; exact absurd hh (by decide)
   rw [heap_put_ne this]; exact hcs
  ·refine row_keep e3 fun c cs hcs => ?_
   have h4 := NdsAt.grown_keep e2 hg hcs (fun _ _ e => by injection e with _ e; exact absurd e (by decide))
   have : c ≠ p := fun e => by rw [e, hp4] at h4; injection h4 with hh; injection hh with _ hh; exact absurd hh (by decide)
   rw [heap_put_ne this]; exact h4
 subst hv'
 simp only [↓RA1, ↓RT, ↓RG, RV, GR, Nat.reduceAdd, hr4, hp4, hokp, hown1, hw]
 exact ⟨rfl, hB, fin⟩
end Go.Inv
namespace Go.Inv
open Go.Sh
theorem bd_N3 (a : Int) (w : World) : (sBuild 151 [(0, vi 3), (1, vi a)]).run pr w = .ok (.value { nd0 with kind := 3, a := a }.v) w := by kernel_rfl
theorem bd_N1 (n : Int) (w : World) : (sBuild 151 [(0, vi 1), (4, vi n)]).run pr w = .ok (.value { nd0 with kind := 1, n := n }.v) w := by kernel_rfl
theorem bd_N2 (n : Int) (w : World) : (sBuild 151 [(0, vi 2), (4, vi n)]).run pr w = .ok (.value { nd0 with kind := 2, n := n }.v) w := by kernel_rfl
theorem bd_N4 (a b site : Int) (s : ByteArray) (w : World) : (sBuild 151 [(0, vi 4), (1, vi a), (2, vi b), (6, .string s), (7, vi site)]).run pr w = .ok (.value (.agg #[vi 4, vi a, vi b, vi 0, vi 0, vi 0, .string s, vi site, vi 0, .bool false])) w := by kernel_rfl
def RexP (src : Bytes) (f : Nat) (j : RJ) (n : Nat) : Prop := ∀ (B r p : Nat) (s s' : RF) (k : Int) (w : World), RfW src 0 s → RfAt src B r p w s → rex src n j s = some (s', k) → Calls pr f #[pt r 0] w (RfP src B r p w (vi k) s')
theorem RfW.small {src : Bytes} {d : Nat} {s : RF} (h : RfW src d s) (hs : src.length ≤ 400) : s.ns.length ≤ 1000 ∧ s.nums.length ≤ 1000 ∧ s.at_ ≤ 400 := by
 have h1 := h.nb; have h2 := h.mb; have h3 := h.ae; have h4 := h.el
 have : (if s.err = 0 then 0 else 1) ≤ 1 := by split <;> omega
 omega
theorem RfW.txs {src : Bytes} {d : Nat} {s : RF} (h : RfW src d s) (hs : src.length ≤ 400) : s.txt.length ≤ 400 := by
 have := h.txl; have := h.el; omega
theorem numJ_eq (t : Bytes) : numJ t = numI t := rfl
theorem varJ_one {t : Bytes} (h : (varOf t).isSome = true) : ∃ c : UInt8, t = [c] ∧ 97 ≤ c.toNat ∧ c.toNat ≤ 104 ∧ varJ t = ((c.toNat - 97 : Nat) : Int) := by
 match t, h with
 | [c], h =>
   unfold varOf at h
   by_cases hc : 97 ≤ c.toNat ∧ c.toNat ≤ 104
   ·exact ⟨c, rfl, hc.1, hc.2, by unfold varJ varOf; simp only [if_pos hc]⟩
   ·have h' : (if 97 ≤ c.toNat ∧ c.toNat ≤ 104 then some (c.toNat - 97) else none).isSome = true := h
    rw [if_neg hc] at h'; cases h'
theorem runary_ok {src : Bytes} (hs : src.length ≤ 400) (n : Nat) (ih1 : RexP src n_ref_Reader_unary .un n) (ih2 : RexP src n_ref_Reader_sum .su n) : RexP src n_ref_Reader_unary .un (n + 1) := by
 intro B r p s s' k w hw h hx
 refine sh_ref_Reader_unary_ok _ _ _ ?_
 unfold sh_ref_Reader_unary
 have hr := h.hr
 simp only [↓RA1, ↓RT, ↓RG, RV, GR, Nat.reduceAdd, hr]
 refine cl_of (rvalue_ok (hw.txs hs) w) ?_
 rintro _ w1 ⟨rfl, rfl⟩
 simp only [endK]
 refine cl_of (risName_ok s.txt w1) ?_
 rintro _ w2 ⟨rfl, rfl⟩
 simp only [endK, ↓RA1, ↓RT, ↓RG, RV, GR, Nat.reduceAdd, hr]
 simp only [rex] at hx
 refine condJr (p := s.err ≠ 0) (by by_cases hh : s.err = 0 <;> simp [hh]) (fun h0 => ?_) (fun h0 => ?_)
 ·rw [if_pos h0] at hx; cases hx
  exact ⟨rfl, FrB.refl B r p w2, h⟩
 rw [if_neg h0] at hx
 have h0 : s.err = 0 := by omega
 have hop := hw.o2 h0
 have hop0 := hw.o0
 refine condJr (p := s.txt = [45]) (by by_cases hh : s.txt = [45] <;> simp [hh]) (fun h1 => ?_) (fun h1 => ?_)
 ·rw [if_pos h1] at hx
  refine cl_of (ropen_ok (t := [45]) h hw.el hs (by omega)) ?_
  rintro _ w3 ⟨rfl, hf3, h3⟩
  simp only [endK]
  have hw3 := (open_w hw (t := [45]) (by decide) hop)
  cases hx1 : rex src n .un (openF src [45] s) with
  | none => rw [hx1] at hx; cases hx
  | some sa =>
    obtain ⟨s1, a⟩ := sa
    rw [hx1] at hx
    simp only at hx
    obtain ⟨g1, g2, g3⟩ := rex_w n _ _ _ _ 1 (hw3.2 h0) hx1
    rw [open_op] at g2
    refine cl_of (ih1 B r p _ _ _ w3 hw3.1 h3 hx1) ?_
    rintro _ w4 ⟨rfl, hf4, h4⟩
    have hr4 := h4.hr
    have hwr : IntKind.i64.wrap (s1.op - 1) = s1.op - 1 := wrap64 (by omega) (by omega)
    have hb := bd_N3 a
    simp only [endK, ↓RA1, ↓RT, ↓RG, RV, GR, Nat.reduceAdd, hr4, hwr, ↓o_val (bd_N3 a _)]
    have h5 : RfAt src B r p (put w4 r 5 (vi (s1.op - 1))) { s1 with op := s1.op - 1 } := h4.setR rfl rfl rfl rfl rfl
    refine cl_of (rnode_ok h5 { nd0 with kind := 3, a := a } (by have := (g1.small hs).1; show s1.ns.length ≤ _; omega)) ?_
    rintro _ w6 ⟨rfl, hf6, h6⟩
    simp only [endK]
    cases hx
    exact ⟨rfl, ((hf3.trans hf4).trans ((FrB.refl B r p w4).putR h4.rB h4.ne)).trans hf6, h6⟩
 rw [if_neg h1] at hx
 try simp only [↓RA1, ↓RT, ↓RG, RV]
 refine condJr (p := s.txt = [40]) (by by_cases hh : s.txt = [40] <;> simp [hh]) (fun h2 => ?_) (fun h2 => ?_)
 ·rw [if_pos h2] at hx
  refine cl_of (ropen_ok (t := [40]) h hw.el hs (by omega)) ?_
  rintro _ w3 ⟨rfl, hf3, h3⟩
  simp only [endK]
  have hw3 := (open_w hw (t := [40]) (by decide) hop)
  cases hx1 : rex src n .su (openF src [40] s) with
  | none => rw [hx1] at hx; cases hx
  | some sa =>
    obtain ⟨s1, a⟩ := sa
    rw [hx1] at hx
    simp only at hx
    obtain ⟨g1, g2, g3⟩ := rex_w n _ _ _ _ 0 hw3.1 hx1
    rw [open_op] at g2
    refine cl_of (ih2 B r p _ _ _ w3 hw3.1 h3 hx1) ?_
    rintro _ w4 ⟨rfl, hf4, h4⟩
    simp only [endK]
    refine cl_of (rshut_ok (t := [41]) h4 g1.el hs (by omega)) ?_
    rintro _ w5 ⟨rfl, hf5, h5⟩
    simp only [endK]
    cases hx
    exact ⟨rfl, (hf3.trans hf4).trans hf5, h5⟩
 rw [if_neg h2] at hx
 try simp only [↓RA1, ↓RT, ↓RG, RV]
 rw [numJ_eq] at hx
 refine condJr (p := 0 ≤ numI s.txt) (by simp) (fun h3 => ?_) (fun h3 => ?_)
 ·rw [if_pos h3] at hx
  have hne : s.txt ≠ [] := numJ_ne (by rw [numJ_eq]; exact h3)
  refine cl_of (rstep_ok h hw.el hs) ?_
  rintro _ w3 ⟨rfl, hf3, hA3⟩
  have hw3 := hw.step h0 hne
  obtain ⟨nv, kv, g1, g2, g3⟩ := hA3.pg
  have hr3 := hA3.hr
  obtain ⟨num, hnum⟩ : ∃ m : Nat, numI s.txt = m := ⟨(numI s.txt).toNat, by omega⟩
  rw [hnum] at hx ⊢
  have hnn : ((num : Int)).toNat = num := rfl
  have ho4 : Old (dr w3) ((dr w3).alloc (.cells #[vi num] tyInt)) := (Old.refl _).alloc _
  have b4 : ((dr w3).alloc (.cells #[vi num] tyInt)).heap[(dr w3).heap.size]? = some (.cells #[vi num] tyInt (0, 0)) := heap_alloc_self _
  have h4 := hA3.dr.old ho4
  simp only [endK, ↓o_bs_int _, ↓RA1, ↓RT, ↓RG, RV, GR, Nat.reduceAdd, hr3, g1]
  have hr4 := h4.hr
  have e1 := ho4.heap (show (dr w3).heap[p]? = _ from g1)
  have e2 : NdsAt B ((dr w3).alloc (.cells #[vi num] tyInt)) nv s.ns := row_keep g2 fun _ _ h => ho4.heap (show (dr w3).heap[_]? = _ from h)
  have e3 : NumsAt B ((dr w3).alloc (.cells #[vi num] tyInt)) kv s.nums := row_keep g3 fun _ _ h => ho4.heap (show (dr w3).heap[_]? = _ from h)
  generalize (dr w3).alloc (.cells #[vi num] tyInt) = w4 at *
  simp only [↓RA1, ↓RT, ↓RG, RV, GR, Nat.reduceAdd, hr4, e1]
  refine o_append2 sl22 e3 b4 rfl (by have := (hw3.small hs).2.1; have : s.nums.length ≤ 1000 := this; omega) h4.wB ?_
  intro v' w5 hown hg hblk
  have hr5 := grown_keep e3 hg hr4 (by decide)
  have hp5 := grown_keep e3 hg e1 (by decide)
  have hown1 : isOne v' = true := by rcases hown.2 with ⟨rfl, _⟩ | ⟨nb, cap, c, rfl, _⟩ <;> rfl
  have hokp : okCell (w5.heap[p]?) 4 = true := by rw [hp5]; rfl
  have hf5 : FrB B r p w4 (put w5 p 4 v') := FrB.grow4 h4.pB h4.wB (fun k hk => (own_row e3 hk).1) e1 hg hp5 hblk
  have fin : RfAt src B r p (put w5 p 4 v') { stepF src s with nums := s.nums ++ [num] } := by
   have hne : r ≠ p := h4.ne
   refine ⟨by rw [heap_put_ne hne]; exact hr5, ⟨nv, v', by rw [heap_put_self, hp5, map_setObj]; rfl, ?_, ?_⟩, h4.rB, h4.pB, by rw [size_put]; have := hg.size; have := h4.wB; omega⟩
   ·refine row_keep e2 fun c cs hcs => ?_
    have h6 := grown_keep e3 hg hcs (by decide)
    have : c ≠ p := fun e => by rw [e, hp5] at h6; injection h6 with hh; injection hh with _ hh; exact absurd hh (by decide)
    rw [heap_put_ne this]; exact h6
   ·unfold NumsAt
    show World.ownsRow _ B tyInt 1 v' (s.nums ++ [num]).length ((s.nums ++ [num]).map fun n : Nat => vi n)
    rw [List.length_append, List.map_append]
    refine row_keep hown fun c cs hcs => ?_
    have : c ≠ p := fun e => by rw [e, hp5] at hcs; injection hcs with hh; injection hh with _ hh; exact absurd hh (by decide)
    rw [heap_put_ne this]; exact hcs
  simp only [↓RA1, ↓RT, ↓RG, RV, GR, Nat.reduceAdd, hr5, hp5, hokp, hown1, ↓o_val (bd_N1 _ _)]
  refine cl_of (rnode_ok fin { nd0 with kind := 1, n := (num : Int) } (by have := (hw3.small hs).1; have : s.ns.length ≤ 1000 := this; show s.ns.length ≤ _; omega)) ?_
  rintro _ w6 ⟨rfl, hf6, hA6⟩
  simp only [endK]
  cases hx
  exact ⟨rfl, (((hf3.dr).trans (FrB.of_old ho4 hA3.wB hA3.pl)).trans hf5).trans hf6, hA6⟩
 rw [if_neg h3] at hx
 try simp only [↓RA1, ↓RT, ↓RG, RV]
 cases h4 : (varOf s.txt).isSome with
 | true =>
   rw [if_pos h4] at hx
   obtain ⟨c, hc, hc1, hc2, hc3⟩ := varJ_one h4
   simp only [CG]
   refine cl_of (rstep_ok h hw.el hs) ?_
   rintro _ w3 ⟨rfl, hf3, hA3⟩
   have hw3 := hw.step h0 (varJ_ne h4)
   have hsub : IntKind.u8.wrap ((c.toNat : Int) - 97) = ((c.toNat - 97 : Nat) : Int) := wrap8_sub hc1 (by omega)
   have hwr : IntKind.i64.wrap ((c.toNat - 97 : Nat) : Int) = ((c.toNat - 97 : Nat) : Int) := wrap64 (by omega) (by omega)
   rw [hc]
   simp only [endK, ↓RA1, ↓RT, ↓RG, RV, GR, Nat.reduceAdd, strAt_lit0, hsub, hwr, ↓o_val (bd_N2 _ _)]
   rw [hc3] at hx
   refine cl_of (rnode_ok hA3 { nd0 with kind := 2, n := ((c.toNat - 97 : Nat) : Int) } (by have := (hw3.small hs).1; omega)) ?_
   rintro _ w4 ⟨rfl, hf4, hA4⟩
   simp only [endK]
   cases hx
   exact ⟨rfl, hf3.trans hf4, hA4⟩
 | false =>
   rw [if_neg (by simp [h4])] at hx
   simp only [CG]
   refine cl_of (rwrong_ok h 2) ?_
   rintro _ w3 ⟨rfl, hf3, hA3⟩
   simp only [endK]
   cases hx
   exact ⟨rfl, hf3, hA3⟩
end Go.Inv
namespace Go.Inv
open Go.Sh
def rfErr (w : World) (r : Nat) : Nat := match w.heap[r]? with
 | some (.cells c _ _) => match c[6]? with
   | some (Value.int _ n) => n.toNat
   | _ => 0
 | _ => 0
def rfPos (w : World) (r : Nat) : Nat := match w.heap[r]? with
 | some (.cells c _ _) => match c[2]? with
   | some (Value.int _ n) => n.toNat
   | _ => 0
 | _ => 0
theorem rfErr_eq {src : Bytes} {B r p : Nat} {w : World} {s : RF} (h : RfAt src B r p w s) : rfErr w r = s.err := by
 unfold rfErr; rw [h.hr]; simp
theorem rfPos_eq {src : Bytes} {B r p : Nat} {w : World} {s : RF} (h : RfAt src B r p w s) : rfPos w r = s.at_ := by
 unfold rfPos; rw [h.hr]; simp
def RfM (src : Bytes) (r : Nat) (_ : List Value) (w : World) : Nat := if rfErr w r ≠ 0 then 0 else 1 + (src.length - rfPos w r)
theorem RfM_lt {src : Bytes} {B r p : Nat} {w w' : World} {s s' : RF} {x y : List Value} {d : Nat} (h : RfAt src B r p w s) (h' : RfAt src B r p w' s') (h0 : s.err = 0) (hw' : RfW src d s') (hat : s.at_ < s'.at_) : RfM src r y w' < RfM src r x w := by
 unfold RfM
 rw [rfErr_eq h, rfErr_eq h', rfPos_eq h, rfPos_eq h']
 have h1 := hw'.ae; have h2 := hw'.el
 rw [if_neg (show ¬ s.err ≠ 0 by omega)]
 split <;> omega
theorem step_lt {src : Bytes} {d : Nat} {s : RF} (h : RfW src d s) (ht : s.txt ≠ []) : s.at_ < (stepF src s).at_ := by
 have h1 := h.txl
 have h2 := List.length_pos_iff.2 ht
 have h3 := skip_ge src s.en
 show s.at_ < skipB src s.en
 omega
theorem rtwo_ok {src : Bytes} {B r p : Nat} {w : World} {s : RF} (h : RfAt src B r p w s) (a b site : Int) (t : Bytes) (hn : s.ns.length ≤ 1000000) :
 Calls pr n_ref_Reader_two #[pt r 0, vi a, .string (S t), vi site, vi b] w (RfP src B r p w (vi (nodeF { nd0 with kind := 4, a := a, b := b, sign := t, site := site } s).2) (nodeF { nd0 with kind := 4, a := a, b := b, sign := t, site := site } s).1) := by
 refine sh_ref_Reader_two_ok _ _ _ _ _ _ _ ?_
 unfold sh_ref_Reader_two
 simp only [↓o_val (bd_N4 _ _ _ _ _)]
 refine cl_of (rnode_ok h { nd0 with kind := 4, a := a, b := b, sign := t, site := site } hn) ?_
 rintro _ w2 ⟨rfl, hf, h2⟩
 simp only [endK]
 exact ⟨rfl, hf, h2⟩
def RcI (src : Bytes) (B r p : Nat) (w0 : World) (n : Nat) (mul : Bool) (s' : RF) (k : Int) (vs : List Value) (w : World) : Prop :=
 ∃ (m : Nat) (a : Int) (s1 : RF), vs = [vi a] ∧ m ≤ n ∧ FrB B r p w0 w ∧ RfAt src B r p w s1 ∧ RfW src 0 s1 ∧ rex src m (.ch mul a) s1 = some (s', k)
def RcJ (src : Bytes) (B r p : Nat) (w0 : World) (s : RF) (vs : List Value) (w : World) : Prop := vs = [vi (siteJ true s)] ∧ FrB B r p w0 w ∧ RfAt src B r p w (bumpJ true s)
theorem sg_no {t : Bytes} (h : isSign true t = false) : (t == [42]) = false ∧ (t == [47]) = false ∧ (t == [37]) = false := by
 simpa [isSign, isMulSign, Bool.or_eq_false_iff, and_assoc] using h
theorem sg_no2 {t : Bytes} (h : isSign false t = false) : (t == [43]) = false ∧ (t == [45]) = false := by
 simpa [isSign, isAddSign, Bool.or_eq_false_iff, and_assoc] using h
theorem rprod_ok {src : Bytes} (hs : src.length ≤ 400) (n : Nat) (ih : ∀ m, m ≤ n → RexP src n_ref_Reader_unary .un m) : RexP src n_ref_Reader_product .pr (n + 1) := by
 intro B r p s s' k w hw h hx
 refine sh_ref_Reader_product_ok _ _ _ ?_
 unfold sh_ref_Reader_product
 simp only [rex] at hx
 cases hx1 : rex src n .un s with
 | none => rw [hx1] at hx; cases hx
 | some sa =>
   obtain ⟨s1, a⟩ := sa
   rw [hx1] at hx
   simp only at hx
   obtain ⟨g1, g2, g3⟩ := rex_w n _ _ _ _ 0 hw hx1
   refine cl_of (ih n (Nat.le_refl _) B r p _ _ _ w hw h hx1) ?_
   rintro _ w1 ⟨rfl, hf1, h1⟩
   simp only [endK]
   refine ⟨RcI src B r p w n true s' k, RfM src r, ⟨n, a, s1, rfl, Nat.le_refl _, hf1, h1, g1, hx⟩, ?_⟩
   rintro e1 w2 ⟨m, b, s2, he, hm, hf2, h2, hw2, hx2⟩
   have e13 : e1 3 = vi b := by simpa using he
   rw [e13]
   have hr2 := h2.hr
   match m, hm, hx2 with
   | 0, _, hx2 => simp [rex] at hx2
   | m + 1, hm, hx2 =>
   simp only [rex] at hx2
   simp only [↓RA1, ↓RT, ↓RG, RV, GR, Nat.reduceAdd, hr2]
   by_cases h0 : s2.err = 0
   ·have z0 : ((s2.err : Int) == 0) = true := by simp [h0]
    simp only [z0, ↓RA1, ↓RT, ↓RG, RV, GR, CG, Nat.reduceAdd, cond_true, cond_false, hr2]
    have stop : isSign true s2.txt = false → RfP src B r p w (vi k) s' (.returned (vi b)) w2 := fun hq => by
     rw [if_neg (by rw [hq]; simp)] at hx2; cases hx2
     exact ⟨rfl, hf2, h2⟩
    have body : isSign true s2.txt = true → ∀ w3, RcJ src B r p w2 s2 [vi (siteJ true s2)] w3 → cl pr (fun c w_1 => RfP src B r p w (vi k) s' (.panicked c) w_1) w3 n_ref_Reader_step #[pt r 0] fun _ w4 =>
     cl pr (fun c w_1 => RfP src B r p w (vi k) s' (.panicked c) w_1) w4 n_ref_Reader_unary #[pt r 0] fun t69 w5 =>
     cl pr (fun c w_1 => RfP src B r p w (vi k) s' (.panicked c) w_1) w5 n_ref_Reader_two #[pt r 0, vi b, .string (S s2.txt), vi (siteJ true s2), t69] fun t75 w6 =>
     RcI src B r p w n true s' k [t75] w6 ∧ RfM src r [t75] w6 < RfM src r [vi b] w2 := fun hq w3 ⟨_, hf3, h3⟩ => by
     rw [if_pos ⟨h0, hq⟩] at hx2
     have hne := isSign_nil hq
     have q5 := hw2.bstep (mul := true) h0 hne
     refine cl_of (rstep_ok h3 (by rw [bump_en]; exact hw2.el) hs) ?_
     rintro _ w4 ⟨rfl, hf4, h4⟩
     simp only [endK]
     cases hx3 : rex src m (partR true) (stepF src (bumpJ true s2)) with
     | none => rw [hx3] at hx2; cases hx2
     | some sb =>
       obtain ⟨s5, c⟩ := sb
       rw [hx3] at hx2
       simp only at hx2
       obtain ⟨v1, v2, v3⟩ := rex_w m _ _ _ _ 1 q5 hx3
       refine cl_of (ih m (by omega) B r p _ _ _ w4 (q5.le (by omega)) h4 hx3) ?_
       rintro _ w5 ⟨rfl, hf5, h5⟩
       simp only [endK]
       refine cl_of (rtwo_ok h5 b c (siteJ true s2) s2.txt (by have := (v1.small hs).1; omega)) ?_
       rintro _ w6 ⟨rfl, hf6, h6⟩
       simp only [endK]
       have hw6 := v1.node { nd0 with kind := 4, a := b, b := c, sign := s2.txt, site := siteJ true s2 }
       refine ⟨⟨m, _, _, rfl, by omega, (((hf2.trans hf3).trans hf4).trans hf5).trans hf6, h6, hw6, hx2⟩, RfM_lt h2 h6 h0 hw6 ?_⟩
       have w1 : s2.at_ < (stepF src (bumpJ true s2)).at_ := by
        show s2.at_ < skipB src (bumpJ true s2).en
        rw [bump_en]; exact step_lt hw2 hne
       exact Nat.lt_of_lt_of_le w1 v3
    cases hq : isSign true s2.txt with
    | false =>
      obtain ⟨z42, z47, z37⟩ := sg_no hq
      simp only [z42, z47, z37, ↓RA1, ↓RT, ↓RG, RV, GR, CG, Nat.reduceAdd, cond_true, cond_false, hr2]
      exact stop hq
    | true =>
      obtain ⟨nv, kv, q1, q2, q3⟩ := h2.pg
      have hsb : (s2.sites : Int) < 9223372036854775807 := by have := hw2.sb; have := hw2.ae; have := hw2.el; omega
      have tail : ∀ (e2 : Nat → Value) w3, RcJ src B r p w2 s2 [e2 5] w3 → cl pr (fun c w_1 => RfP src B r p w (vi k) s' (.panicked c) w_1) w3 n_ref_Reader_step #[pt r 0] fun _ w4 =>
       cl pr (fun c w_1 => RfP src B r p w (vi k) s' (.panicked c) w_1) w4 n_ref_Reader_unary #[pt r 0] fun t69 w5 =>
       cl pr (fun c w_1 => RfP src B r p w (vi k) s' (.panicked c) w_1) w5 n_ref_Reader_two #[pt r 0, vi b, .string (S s2.txt), e2 5, t69] fun t75 w6 =>
       RcI src B r p w n true s' k [t75] w6 ∧ RfM src r [t75] w6 < RfM src r [vi b] w2 := fun e2 w3 ⟨hv, hf3, h3⟩ => by
       have e25 : e2 5 = vi (siteJ true s2) := by simpa using hv
       rw [e25]
       exact body hq w3 ⟨rfl, hf3, h3⟩
      have hdiv : s2.txt ≠ [42] → (s2.txt == [42]) = false → IntKind.i64.wrap ((s2.sites : Int) + 1) = ((s2.sites + 1 : Nat) : Int) → RcJ src B r p w2 s2 [vi s2.sites] (put (dr w2) p 3 (vi (s2.sites + 1 : Nat))) := fun hne hz hw => by
       have hsite : siteJ true s2 = s2.sites := by unfold siteJ; rw [hz]; rfl
       have hbump : bumpJ true s2 = { s2 with sites := s2.sites + 1 } := by unfold bumpJ; rw [hz]; rfl
       refine ⟨by rw [hsite], (FrB.refl B r p w2).dr.putP h2.pB q1 rfl, ?_⟩
       rw [hbump]
       exact h2.dr.setP (fun _ _ => rfl) rfl rfl rfl
      have hsm : (s2.sites : Int) < 9223372036854775807 → IntKind.i64.wrap ((s2.sites : Int) + 1) = ((s2.sites + 1 : Nat) : Int) := fun _ => by rw [wrap64 (by omega) (by omega)]; omega
      have ht : s2.txt = [42] ∨ s2.txt = [47] ∨ s2.txt = [37] := by
       simp only [isSign, isMulSign, if_true, Bool.or_eq_true, beq_iff_eq, or_assoc] at hq; exact hq
      rcases ht with ht | ht | ht
      ·have z42 : (s2.txt == [42]) = true := by rw [ht]; rfl
       have n42 : (s2.txt != [42]) = false := by rw [ht]; rfl
       have hsite : siteJ true s2 = -1 := by unfold siteJ; rw [z42]; rfl
       have hbump : bumpJ true s2 = s2 := by unfold bumpJ; rw [z42]; rfl
       simp only [z42, ↓RA1, ↓RT, ↓RG, RV, GR, CG, Nat.reduceAdd, cond_true, cond_false, hr2]
       refine ⟨RcJ src B r p w2 s2, tail, ?_⟩
       simp only [n42, ↓RA1, ↓RT, ↓RG, RV, GR, CG, Nat.reduceAdd, cond_true, cond_false, hr2]
       exact ⟨by rw [hsite], FrB.refl B r p w2, by rw [hbump]; exact h2⟩
      ·have z42 : (s2.txt == [42]) = false := by rw [ht]; rfl
       have z47 : (s2.txt == [47]) = true := by rw [ht]; rfl
       have n42 : (s2.txt != [42]) = true := by rw [ht]; rfl
       simp only [z42, z47, ↓RA1, ↓RT, ↓RG, RV, GR, CG, Nat.reduceAdd, cond_true, cond_false, hr2]
       refine ⟨RcJ src B r p w2 s2, tail, ?_⟩
       simp only [n42, ↓RA1, ↓RT, ↓RG, RV, GR, CG, Nat.reduceAdd, cond_true, cond_false, hr2, q1, hsm hsb, heap_dr]
       exact hdiv (by rw [ht]; decide) z42 (hsm hsb)
      ·have z42 : (s2.txt == [42]) = false := by rw [ht]; rfl
       have z47 : (s2.txt == [47]) = false := by rw [ht]; rfl
       have z37 : (s2.txt == [37]) = true := by rw [ht]; rfl
       have n42 : (s2.txt != [42]) = true := by rw [ht]; rfl
       simp only [z42, z47, z37, ↓RA1, ↓RT, ↓RG, RV, GR, CG, Nat.reduceAdd, cond_true, cond_false, hr2]
       refine ⟨RcJ src B r p w2 s2, tail, ?_⟩
       simp only [n42, ↓RA1, ↓RT, ↓RG, RV, GR, CG, Nat.reduceAdd, cond_true, cond_false, hr2, q1, hsm hsb, heap_dr]
       exact hdiv (by rw [ht]; decide) z42 (hsm hsb)
   ·have z0 : ((s2.err : Int) == 0) = false := by simp; omega
    simp only [z0, ↓RA1, ↓RT, ↓RG, RV, GR, CG, Nat.reduceAdd, cond_true, cond_false, hr2]
    rw [if_neg (fun hh => h0 hh.1)] at hx2; cases hx2
    exact ⟨rfl, hf2, h2⟩
end Go.Inv
namespace Go.Inv
open Go.Sh
theorem rsum_ok {src : Bytes} (hs : src.length ≤ 400) (n : Nat) (ih : ∀ m, m ≤ n → RexP src n_ref_Reader_product .pr m) : RexP src n_ref_Reader_sum .su (n + 1) := by
 intro B r p s s' k w hw h hx
 refine sh_ref_Reader_sum_ok _ _ _ ?_
 unfold sh_ref_Reader_sum
 simp only [rex] at hx
 cases hx1 : rex src n .pr s with
 | none => rw [hx1] at hx; cases hx
 | some sa =>
   obtain ⟨s1, a⟩ := sa
   rw [hx1] at hx
   simp only at hx
   obtain ⟨g1, g2, g3⟩ := rex_w n _ _ _ _ 0 hw hx1
   refine cl_of (ih n (Nat.le_refl _) B r p _ _ _ w hw h hx1) ?_
   rintro _ w1 ⟨rfl, hf1, h1⟩
   simp only [endK]
   refine ⟨RcI src B r p w n false s' k, RfM src r, ⟨n, a, s1, rfl, Nat.le_refl _, hf1, h1, g1, hx⟩, ?_⟩
   rintro e1 w2 ⟨m, b, s2, he, hm, hf2, h2, hw2, hx2⟩
   have e13 : e1 3 = vi b := by simpa using he
   rw [e13]
   have hr2 := h2.hr
   match m, hm, hx2 with
   | 0, _, hx2 => simp [rex] at hx2
   | m + 1, hm, hx2 =>
   simp only [rex] at hx2
   simp only [↓RA1, ↓RT, ↓RG, RV, GR, Nat.reduceAdd, hr2]
   by_cases h0 : s2.err = 0
   ·have z0 : ((s2.err : Int) == 0) = true := by simp [h0]
    simp only [z0, ↓RA1, ↓RT, ↓RG, RV, GR, CG, Nat.reduceAdd, cond_true, cond_false, hr2]
    have stop : isSign false s2.txt = false → RfP src B r p w (vi k) s' (.returned (vi b)) w2 := fun hq => by
     rw [if_neg (by rw [hq]; simp)] at hx2; cases hx2
     exact ⟨rfl, hf2, h2⟩
    have site1 : siteJ false s2 = -1 := by unfold siteJ; rfl
    have bump1 : bumpJ false s2 = s2 := by unfold bumpJ; rfl
    rw [site1, bump1] at hx2
    have body : isSign false s2.txt = true → cl pr (fun c w_1 => RfP src B r p w (vi k) s' (.panicked c) w_1) w2 n_ref_Reader_step #[pt r 0] fun _ w4 =>
     cl pr (fun c w_1 => RfP src B r p w (vi k) s' (.panicked c) w_1) w4 n_ref_Reader_product #[pt r 0] fun t69 w5 =>
     cl pr (fun c w_1 => RfP src B r p w (vi k) s' (.panicked c) w_1) w5 n_ref_Reader_two #[pt r 0, vi b, .string (S s2.txt), vi (-1), t69] fun t75 w6 =>
     RcI src B r p w n false s' k [t75] w6 ∧ RfM src r [t75] w6 < RfM src r [vi b] w2 := fun hq => by
     rw [if_pos ⟨h0, hq⟩] at hx2
     have hne := isSign_nil hq
     have q5 := hw2.step h0 hne
     refine cl_of (rstep_ok h2 hw2.el hs) ?_
     rintro _ w4 ⟨rfl, hf4, h4⟩
     simp only [endK]
     cases hx3 : rex src m (partR false) (stepF src s2) with
     | none => rw [hx3] at hx2; cases hx2
     | some sb =>
       obtain ⟨s5, c⟩ := sb
       rw [hx3] at hx2
       simp only at hx2
       obtain ⟨v1, v2, v3⟩ := rex_w m _ _ _ _ 1 q5 hx3
       refine cl_of (ih m (by omega) B r p _ _ _ w4 (q5.le (by omega)) h4 hx3) ?_
       rintro _ w5 ⟨rfl, hf5, h5⟩
       simp only [endK]
       refine cl_of (rtwo_ok h5 b c (-1) s2.txt (by have := (v1.small hs).1; omega)) ?_
       rintro _ w6 ⟨rfl, hf6, h6⟩
       simp only [endK]
       have hw6 := v1.node { nd0 with kind := 4, a := b, b := c, sign := s2.txt, site := -1 }
       exact ⟨⟨m, _, _, rfl, by omega, ((hf2.trans hf4).trans hf5).trans hf6, h6, hw6, hx2⟩, RfM_lt h2 h6 h0 hw6 (Nat.lt_of_lt_of_le (step_lt hw2 hne) v3)⟩
    cases hq : isSign false s2.txt with
    | false =>
      obtain ⟨z43, z45⟩ := sg_no2 hq
      simp only [z43, z45, ↓RA1, ↓RT, ↓RG, RV, GR, CG, Nat.reduceAdd, cond_true, cond_false, hr2]
      exact stop hq
    | true =>
      have ht : s2.txt = [43] ∨ s2.txt = [45] := by
       simp only [isSign, isAddSign, Bool.false_eq_true, if_false, Bool.or_eq_true, beq_iff_eq] at hq; exact hq
      rcases ht with ht | ht
      ·have z43 : (s2.txt == [43]) = true := by rw [ht]; rfl
       simp only [z43, ↓RA1, ↓RT, ↓RG, RV, GR, CG, Nat.reduceAdd, cond_true, cond_false, hr2]
       exact body hq
      ·have z43 : (s2.txt == [43]) = false := by rw [ht]; rfl
       have z45 : (s2.txt == [45]) = true := by rw [ht]; rfl
       simp only [z43, z45, ↓RA1, ↓RT, ↓RG, RV, GR, CG, Nat.reduceAdd, cond_true, cond_false, hr2]
       exact body hq
   ·have z0 : ((s2.err : Int) == 0) = false := by simp; omega
    simp only [z0, ↓RA1, ↓RT, ↓RG, RV, GR, CG, Nat.reduceAdd, cond_true, cond_false, hr2]
    rw [if_neg (fun hh => h0 hh.1)] at hx2; cases hx2
    exact ⟨rfl, hf2, h2⟩
theorem rex_all {src : Bytes} (hs : src.length ≤ 400) : ∀ n, RexP src n_ref_Reader_unary .un n ∧ RexP src n_ref_Reader_product .pr n ∧ RexP src n_ref_Reader_sum .su n := by
 intro n
 induction n using Nat.strongRecOn with
 | ind n ih =>
   cases n with
   | zero =>
     refine ⟨?_, ?_, ?_⟩ <;> (intro B r p s s' k w _ _ hx; simp [rex] at hx)
   | succ n =>
     exact ⟨runary_ok hs n (ih n (by omega)).1 (ih n (by omega)).2.2, rprod_ok hs n fun m hm => (ih m (by omega)).1, rsum_ok hs n fun m hm => (ih m (by omega)).2.1⟩
end Go.Inv
namespace Go.Inv
open Go.Sh
theorem rname_ok {src : Bytes} (hs : src.length ≤ 400) {B r p : Nat} {w : World} {s : RF} (h : RfAt src B r p w s) (hen : s.en ≤ src.length) : Calls pr n_ref_Reader_name #[pt r 0] w (RfP src B r p w (vi (rname src s).2) (rname src s).1) := by
 refine sh_ref_Reader_name_ok _ _ _ ?_
 unfold sh_ref_Reader_name
 have hr := h.hr
 simp only [↓RA1, ↓RT, ↓RG, RV, GR, Nat.reduceAdd, hr]
 refine cl_of (risName_ok s.txt w) ?_
 rintro _ w1 ⟨rfl, rfl⟩
 have bad : s.err ≠ 0 ∨ varOf s.txt = none → cl pr (fun c w_1 => RfP src B r p w1 (vi (rname src s).2) (rname src s).1 (.panicked c) w_1) w1 n_ref_Reader_wrong #[pt r 0, vi 2] fun _ w_1 => RfP src B r p w1 (vi (rname src s).2) (rname src s).1 (.returned (vi 0)) w_1 := fun hb => by
  have e : rname src s = (wrongF 2 s, 0) := by unfold rname; rw [if_pos hb]
  rw [e]
  refine cl_of (rwrong_ok h 2) ?_
  rintro _ w2 ⟨rfl, hf, h2⟩
  simp only [endK]
  exact ⟨rfl, hf, h2⟩
 simp only [endK, ↓RA1, ↓RT, ↓RG, RV, GR, Nat.reduceAdd, hr]
 by_cases h0 : s.err = 0
 ·have z0 : ((s.err : Int) != 0) = false := by simp [h0]
  simp only [z0, ↓RA1, ↓RT, ↓RG, RV, GR, CG, Nat.reduceAdd, cond_true, cond_false, hr]
  cases hv : (varOf s.txt).isSome with
  | false =>
    simp only [Bool.not_false, ↓RA1, ↓RT, ↓RG, RV, GR, CG, cond_true, cond_false]
    exact bad (.inr (by cases hh : varOf s.txt with | none => rfl | some x => rw [hh] at hv; cases hv))
  | true =>
    obtain ⟨c, hc, hc1, hc2, hc3⟩ := varJ_one hv
    have e : rname src s = (stepF src s, varJ s.txt) := by
     unfold rname; rw [if_neg]
     rintro (hh | hh)
     ·exact hh h0
     ·rw [hh] at hv; cases hv
    rw [e, hc3]
    have hsub : IntKind.u8.wrap ((c.toNat : Int) - 97) = ((c.toNat - 97 : Nat) : Int) := wrap8_sub hc1 (by omega)
    have hwr : IntKind.i64.wrap ((c.toNat - 97 : Nat) : Int) = ((c.toNat - 97 : Nat) : Int) := wrap64 (by omega) (by omega)
    have hst : strAt s.txt 0 = some (vb c) := by rw [hc]; rfl
    simp only [Bool.not_true, ↓RA1, ↓RT, ↓RG, RV, GR, CG, Nat.reduceAdd, cond_true, cond_false, hr, hst, hsub, hwr]
    refine cl_of (rstep_ok h hen hs) ?_
    rintro _ w2 ⟨rfl, hf, h2⟩
    simp only [endK]
    exact ⟨rfl, hf, h2⟩
 ·have z0 : ((s.err : Int) != 0) = true := by simp; omega
  simp only [z0, ↓RA1, ↓RT, ↓RG, RV, GR, CG, Nat.reduceAdd, cond_true, cond_false, hr]
  exact bad (.inl h0)
theorem relOf_cases (t : Bytes) : relOf t = none ↔ ((t == [60]) = false ∧ (t == [60, 61]) = false ∧ (t == [61, 61]) = false ∧ (t == [33, 61]) = false ∧ (t == [62, 61]) = false ∧ (t == [62]) = false) := by
 unfold relOf
 cases h1 : (t == [60]) <;> cases h2 : (t == [62, 61]) <;> cases h3 : (t == [60, 61]) <;> cases h4 : (t == [62]) <;> cases h5 : (t == [61, 61]) <;> cases h6 : (t == [33, 61]) <;> simp
theorem bd_N5 (a b : Int) (s : ByteArray) (w : World) : (sBuild 151 [(0, vi 5), (1, vi a), (2, vi b), (6, .string s)]).run pr w = .ok (.value (.agg #[vi 5, vi a, vi b, vi 0, vi 0, vi 0, .string s, vi 0, vi 0, .bool false])) w := by kernel_rfl
def CoJ (src : Bytes) (B r p : Nat) (w0 : World) (s1 : RF) (vs : List Value) (w : World) : Prop := vs = [.string (S s1.txt)] ∧ FrB B r p w0 w ∧ RfAt src B r p w (relErr s1)
def RcoP (src : Bytes) (f : Nat) (n : Nat) : Prop := ∀ (B r p : Nat) (s s' : RF) (k : Int) (w : World), RfW src 0 s → RfAt src B r p w s → rcond src n s = some (s', k) → Calls pr f #[pt r 0] w (RfP src B r p w (vi k) s')
theorem relErr_f (s : RF) : (relErr s).txt = s.txt ∧ (relErr s).en = s.en := by
 unfold relErr wrongF; split
 ·split <;> exact ⟨rfl, rfl⟩
 ·exact ⟨rfl, rfl⟩
theorem relErr_w {src : Bytes} {d : Nat} {s : RF} (h : RfW src d s) : RfW src d (relErr s) ∧ (relErr s).op = s.op ∧ (relErr s).at_ = s.at_ := by
 unfold relErr; split
 ·exact ⟨h.wrong (by decide), by unfold wrongF; split <;> rfl, wrong_at _ _⟩
 ·exact ⟨h, rfl, rfl⟩
theorem rel_txt {s : RF} (h : (relErr s).err = 0) : s.err = 0 ∧ relOf s.txt ≠ none := by
 unfold relErr wrongF at h
 split at h
 ·rename_i hc; rw [if_pos hc.1] at h; cases h
 ·rename_i hc
  exact ⟨h, fun hh => hc ⟨h, hh⟩⟩
theorem rcond_ok {src : Bytes} (hs : src.length ≤ 400) (n : Nat) : RcoP src n_ref_Reader_cond n := by
 intro B r p s s' k w hw h hx
 refine sh_ref_Reader_cond_ok _ _ _ ?_
 unfold sh_ref_Reader_cond
 unfold rcond at hx
 cases hx1 : rex src n .su s with
 | none => rw [hx1] at hx; cases hx
 | some sa =>
   obtain ⟨s1, a⟩ := sa
   rw [hx1] at hx
   simp only at hx
   obtain ⟨g1, g2, g3⟩ := rex_w n _ _ _ _ 0 hw hx1
   refine cl_of ((rex_all hs n).2.2 B r p _ _ _ w hw h hx1) ?_
   rintro _ w1 ⟨rfl, hf1, h1⟩
   simp only [endK]
   refine ⟨CoJ src B r p w1 s1, ?_, ?_⟩
   ·rintro e1 w2 ⟨hv, hf2, h2⟩
    have e14 : e1 4 = .string (S s1.txt) := by simpa using hv
    rw [e14]
    have hr2 := h2.hr
    obtain ⟨q1, q2, q3⟩ := relErr_w g1
    simp only [↓RA1, ↓RT, ↓RG, RV, GR, Nat.reduceAdd, hr2]
    refine condJr (p := (relErr s1).err ≠ 0) (by by_cases hh : (relErr s1).err = 0 <;> simp [hh]) (fun h0 => ?_) (fun h0 => ?_)
    ·rw [if_pos h0] at hx; cases hx
     exact ⟨rfl, hf1.trans hf2, h2⟩
    ·rw [if_neg h0] at hx
     have h0 : (relErr s1).err = 0 := by omega
     have hne : s1.txt ≠ [] := by
      have := (rel_txt h0).2
      rintro hh; rw [hh] at this; exact this (by decide)
     have q5 := q1.step h0 (by rw [(relErr_f s1).1]; exact hne)
     refine cl_of (rstep_ok h2 q1.el hs) ?_
     rintro _ w3 ⟨rfl, hf3, h3⟩
     simp only [endK]
     cases hx3 : rex src n .su (stepF src (relErr s1)) with
     | none => rw [hx3] at hx; cases hx
     | some sb =>
       obtain ⟨s5, c⟩ := sb
       rw [hx3] at hx
       simp only at hx
       obtain ⟨v1, v2, v3⟩ := rex_w n _ _ _ _ 1 q5 hx3
       refine cl_of ((rex_all hs n).2.2 B r p _ _ _ w3 (q5.le (by omega)) h3 hx3) ?_
       rintro _ w5 ⟨rfl, hf5, h5⟩
       simp only [endK, ↓o_val (bd_N5 _ _ _ _)]
       refine cl_of (rnode_ok h5 { nd0 with kind := 5, a := a, b := c, sign := s1.txt } (by have := (v1.small hs).1; omega)) ?_
       rintro _ w6 ⟨rfl, hf6, h6⟩
       simp only [endK]
       cases hx
       exact ⟨rfl, (((hf1.trans hf2).trans hf3).trans hf5).trans hf6, h6⟩
   ·have hr1 := h1.hr
    have good : ¬ (s1.err = 0 ∧ relOf s1.txt = none) → CoJ src B r p w1 s1 [.string (S s1.txt)] w1 := fun hn => ⟨rfl, FrB.refl B r p w1, by unfold relErr; rw [if_neg hn]; exact h1⟩
    have bad : (s1.err = 0 ∧ relOf s1.txt = none) → cl pr (fun c w_1 => RfP src B r p w (vi k) s' (.panicked c) w_1) w1 n_ref_Reader_wrong #[pt r 0, vi 2] fun _ w_1 => CoJ src B r p w1 s1 [.string (S s1.txt)] w_1 := fun hy => by
     refine cl_of (rwrong_ok h1 2) ?_
     rintro _ w2 ⟨rfl, hf, h2⟩
     simp only [endK]
     exact ⟨rfl, hf, by unfold relErr; rw [if_pos hy]; exact h2⟩
    simp only [↓RA1, ↓RT, ↓RG, RV, GR, Nat.reduceAdd, hr1]
    by_cases h0 : s1.err = 0
    ·have z0 : ((s1.err : Int) == 0) = true := by simp [h0]
     have hiff := relOf_cases s1.txt
     simp only [z0, ↓RA1, ↓RT, ↓RG, RV, GR, CG, Nat.reduceAdd, cond_true, cond_false, bSS]
     cases y1 : (s1.txt == [60])
     ·simp only [Bool.not_false, Bool.not_true, ↓RA1, ↓RT, ↓RG, RV, CG, cond_true, cond_false, bSS]
      cases y2 : (s1.txt == [60, 61])
      ·simp only [Bool.not_false, Bool.not_true, ↓RA1, ↓RT, ↓RG, RV, CG, cond_true, cond_false, bSS]
       cases y3 : (s1.txt == [61, 61])
       ·simp only [Bool.not_false, Bool.not_true, ↓RA1, ↓RT, ↓RG, RV, CG, cond_true, cond_false, bSS]
        cases y4 : (s1.txt == [33, 61])
        ·simp only [Bool.not_false, Bool.not_true, ↓RA1, ↓RT, ↓RG, RV, CG, cond_true, cond_false, bSS]
         cases y5 : (s1.txt == [62, 61])
         ·simp only [Bool.not_false, Bool.not_true, ↓RA1, ↓RT, ↓RG, RV, CG, cond_true, cond_false, bSS]
          cases y6 : (s1.txt == [62])
          ·simp only [Bool.not_false, Bool.not_true, ↓RA1, ↓RT, ↓RG, RV, CG, cond_true, cond_false, bSS]
           exact bad ⟨h0, hiff.2 ⟨y1, y2, y3, y4, y5, y6⟩⟩
          ·simp only [Bool.not_false, Bool.not_true, ↓RA1, ↓RT, ↓RG, RV, CG, cond_true, cond_false, bSS]
           exact good (fun hh => by have := hiff.1 hh.2; rw [y6] at this; simp at this)
         ·simp only [Bool.not_false, Bool.not_true, ↓RA1, ↓RT, ↓RG, RV, CG, cond_true, cond_false, bSS]
          exact good (fun hh => by have := hiff.1 hh.2; rw [y5] at this; simp at this)
        ·simp only [Bool.not_false, Bool.not_true, ↓RA1, ↓RT, ↓RG, RV, CG, cond_true, cond_false, bSS]
         exact good (fun hh => by have := hiff.1 hh.2; rw [y4] at this; simp at this)
       ·simp only [Bool.not_false, Bool.not_true, ↓RA1, ↓RT, ↓RG, RV, CG, cond_true, cond_false, bSS]
        exact good (fun hh => by have := hiff.1 hh.2; rw [y3] at this; simp at this)
      ·simp only [Bool.not_false, Bool.not_true, ↓RA1, ↓RT, ↓RG, RV, CG, cond_true, cond_false, bSS]
       exact good (fun hh => by have := hiff.1 hh.2; rw [y2] at this; simp at this)
     ·simp only [Bool.not_false, Bool.not_true, ↓RA1, ↓RT, ↓RG, RV, CG, cond_true, cond_false, bSS]
      exact good (fun hh => by have := hiff.1 hh.2; rw [y1] at this; simp at this)
    ·have z0 : ((s1.err : Int) == 0) = false := by simp; omega
     simp only [z0, ↓RA1, ↓RT, ↓RG, RV, GR, CG, Nat.reduceAdd, cond_true, cond_false]
     exact good (fun hh => h0 hh.1)
end Go.Inv
namespace Go.Inv
open Go.Sh
structure Emb (V : Type) where
 a : V → Int
 b : V → Int
section
variable {V : Type} (e : Emb V)
theorem flat_len {α β : Type} {f : α → List β} {k : Nat} : ∀ {l : List α}, (∀ x ∈ l, (f x).length = k) → (l.flatMap f).length = l.length * k
 | [], _ => by simp
 | x :: l, h => by
   rw [List.flatMap_cons, List.length_append, h x (by simp), flat_len (fun y hy => h y (by simp [hy])), List.length_cons, Nat.add_mul, Nat.one_mul, Nat.add_comm]
theorem flat_split {α β : Type} {f : α → List β} {l : List α} {i : Nat} (hi : i < l.length) : l.flatMap f = (l.take i).flatMap f ++ (f l[i] ++ (l.drop (i + 1)).flatMap f) := by
 conv => lhs; rw [← List.take_append_drop i l, List.drop_eq_getElem_cons hi]
 rw [List.flatMap_append, List.flatMap_cons]
theorem flat_set {α β : Type} {f : α → List β} {l : List α} {i : Nat} (u : α) (hi : i < l.length) : (l.set i u).flatMap f = (l.take i).flatMap f ++ (f u ++ (l.drop (i + 1)).flatMap f) := by
 rw [List.set_eq_take_append_cons_drop, if_pos hi, List.flatMap_append, List.flatMap_cons]
theorem take_len {α β : Type} {f : α → List β} {k : Nat} {l : List α} {i : Nat} (h : ∀ x ∈ l, (f x).length = k) (hi : i < l.length) : ((l.take i).flatMap f).length = i * k := by
 rw [flat_len (fun x hx => h x (List.mem_of_mem_take hx)), List.length_take, Nat.min_eq_left (by omega)]
theorem heap_putL_ne {b c : Nat} (h : c ≠ b) : ∀ (vs : List Value) (i : Nat) (w : World), (putL w b i vs).heap[c]? = w.heap[c]?
 | [], _, _ => rfl
 | v :: vs, i, w => by rw [putL, heap_putL_ne h vs]; exact heap_put_ne h
theorem size_putL (b : Nat) : ∀ (vs : List Value) (i : Nat) (w : World), (putL w b i vs).heap.size = w.heap.size
 | [], _, _ => rfl
 | v :: vs, i, w => by rw [putL, size_putL b vs]; exact size_put _ _
end
def setR (c : Array Value) (i : Nat) : List Value → Array Value
 | [] => c
 | v :: r => setR (c.setIfInBounds i v) (i + 1) r
def rowObj (i : Nat) (vs : List Value) : Obj → Obj
 | .cells c t f => .cells (setR c i vs) t f
 | x => x
theorem get_putL (b c : Nat) : ∀ (vs : List Value) (i : Nat) (w : World), (putL w b i vs).heap[c]? = if c = b then (w.heap[b]?).map (rowObj i vs) else w.heap[c]?
 | [], i, w => by
   split
   ·rename_i h; subst h
    show w.heap[c]? = _
    cases w.heap[c]? with
    | none => rfl
    | some o => cases o <;> rfl
   ·rfl
 | v :: vs, i, w => by
   rw [putL, get_putL b c vs]
   split
   ·rename_i h; subst h
    rw [heap_put_self]
    cases w.heap[c]? with
    | none => rfl
    | some o => cases o <;> rfl
   ·rename_i h; exact heap_put_ne h
theorem setR_mid {r : List Value} : ∀ (vs p q : List Value), q.length = vs.length → setR (p ++ (q ++ r)).toArray p.length vs = (p ++ (vs ++ r)).toArray
 | [], p, q, hq => by
   have : q = [] := List.length_eq_zero_iff.1 hq
   subst this; rfl
 | v :: vs, p, [], hq => by cases hq
 | v :: vs, p, c :: q, hq => by
   have h2 := setR_mid (r := r) vs (p ++ [v]) q (by simpa using hq)
   rw [List.length_append] at h2
   have e : (p ++ (c :: q ++ r)).toArray.setIfInBounds p.length v = ((p ++ [v]) ++ (q ++ r)).toArray := by
    apply Array.toList_inj.1
    simp
   rw [setR, e]
   have h3 : p.length + [v].length = p.length + 1 := rfl
   rw [h3] at h2
   rw [h2]
   simp
section
variable {V : Type} (e : Emb V)
end
end Go.Inv
