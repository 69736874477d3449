/- A part of the proofs of the cards of this seat: whatever the input, each law returns true and leaves its arguments as they were. No condition. -/
import Derived.Test.YtknfapnlpkmcjaaGreatDoorPF
import Derived.Test.YtknfapnlpkmcjaaGreatDoorPG
import Derived.Test.YtknfapnlpkmcjaaGreatDoorPA
import Derived.Test.YtknfapnlpkmcjaaGreatDoorPC
set_option linter.all false
set_option maxRecDepth 100000
set_option maxHeartbeats 32000000
namespace Go.Inv
open Go.Sh
theorem ag100 : aggT pr 100 = some 2 := by kernel_rfl
theorem ag162 : aggT pr 162 = some 2 := by kernel_rfl
theorem fo162_0 : fieldOff pr 162 0 = some 0 := by kernel_rfl
theorem fo162_1 : fieldOff pr 162 1 = some 1 := by kernel_rfl
theorem fo166_0 : fieldOff pr 166 0 = some 0 := by kernel_rfl
def RT5 := (And.intro (And.intro (And.intro (And.intro (rLoad pl3) (And.intro (raLoad pl3) (rkLoad pl3))) (And.intro (rStore pl3) (And.intro (rLoad pl22) (raLoad pl22)))) (And.intro (And.intro (rkLoad pl22) (And.intro (rStore pl22) (rLoadA ag100))) (And.intro (raLoadA ag100) (And.intro (rkLoadA ag100) (rStoreA ag100))))) (And.intro (And.intro (And.intro (rLoadA ag162) (And.intro (raLoadA ag162) (rkLoadA ag162))) (And.intro (rStoreA ag162) (And.intro (rFA fo162_0) (rzFA fo162_0)))) (And.intro (And.intro (rFA fo162_1) (And.intro (rzFA fo162_1) (rFA fo166_0))) (And.intro (rzFA fo166_0) (And.intro (rLenL il22) (rzLenL il22))))))
def sh_ds_Bounds (K : Value → World → Prop) (E : PanicK) (a0 a1 a2 a3 : Value) (w : World) : Prop :=
 o pr E w (sBox 166 a0) fun _ w =>
 o pr E w (sBox 162 a1) fun t5 w =>
 o pr E w (sBox 162 a3) fun t7 w =>
 o pr E w (sAlloc 162) fun t8 w =>
 o pr E w (sAlloc 162) fun t9 w =>
 ∃ j1 : List Value → World → Prop, (∀ (e1 : Nat → Value) w, j1 [] w →
 o pr E w (sBuild 166 []) fun t68 w =>
 o pr E w (sLoad 162 t5) fun t69 w =>
 o pr E w (sLoad 162 t8) fun t70 w =>
 cl pr E w n_ds_Meet #[t68, t69, t70] fun t71 w =>
 o pr E w (sExt t71 0) fun t72 w =>
 o pr E w (sExt t71 1) fun t73 w =>
 o pr E w (sAlloc 162) fun t12 w =>
 o pr E w (sStore 162 t12 t72) fun _ w =>
 o pr E w (sBuild 166 []) fun t75 w =>
 o pr E w (sLoad 162 t7) fun t76 w =>
 o pr E w (sLoad 162 t9) fun t77 w =>
 cl pr E w n_ds_Meet #[t75, t76, t77] fun t78 w =>
 o pr E w (sExt t78 0) fun t79 w =>
 o pr E w (sExt t78 1) fun t80 w =>
 o pr E w (sAlloc 162) fun t14 w =>
 o pr E w (sStore 162 t14 t79) fun _ w =>
 (fun w =>
 (fun (k17 : Value → Value → World → Prop) =>
 oa pr w (sLoad 162 t8) fun t81 =>
 oa pr w (sLoad 162 t9) fun t82 =>
 condG t73 true (oz pr (sPick t73 t80 (Value.bool false)) fun t86 =>
 o pr E w (sStore 162 t8 t81) fun _ w =>
 rk pr w (sLoad 162 t9) t82 ∧
 o pr E w (sStore 162 t9 t82) fun _ w =>
 k17 (Value.bool true) t86 w)
  (oz pr (sPick t73 undef (Value.bool false)) fun t86_1 =>
 o pr E w (sStore 162 t8 t81) fun _ w =>
 rk pr w (sLoad 162 t9) t82 ∧
 o pr E w (sStore 162 t9 t82) fun _ w =>
 k17 (Value.bool true) t86_1 w))
 (fun t10 t11 w =>
 rs pr w t8 162 fun v0_0 =>
 rs pr w t9 162 fun v1_1 =>
 K (.tuple #[v0_0, v1_1, t10, t11]) w)) (dr w)) ∧
 o pr E w (sBuild 162 [(0, (Value.int IntKind.i64 (-32768))), (1, (Value.int IntKind.i64 32767))]) fun t16 w =>
 o pr E w (sBuild 162 [(0, (Value.int IntKind.i64 (-32768))), (1, (Value.int IntKind.i64 32767))]) fun t17 w =>
 o pr E w (sStore 162 t8 t16) fun _ w =>
 o pr E w (sStore 162 t9 t17) fun _ w =>
 o pr E w (sBinC .eql 209 a2 (Value.int IntKind.i64 0) 209) fun t20 w =>
 condP t20 ((fun w =>
 oz pr (sFA 162 t7 1) fun t21 =>
 oa pr w (sLoad 3 t21) fun t22 =>
 oz pr (sBinC .sub 3 t22 (Value.int IntKind.i64 1) 3) fun t23 =>
 oz pr (sFA 162 t5 0) fun t24 =>
 oa pr w (sLoad 3 t24) fun t25 =>
 oz pr (sBinC .add 3 t25 (Value.int IntKind.i64 1) 3) fun t26 =>
 oz pr (sFA 162 t8 1) fun t27 =>
 o pr E w (sStore 3 t27 t23) fun _ w =>
 rk pr w (sLoad 3 t24) t25 ∧
 oz pr (sFA 162 t9 0) fun t28 =>
 o pr E w (sStore 3 t28 t26) fun _ w =>
 j1 [] w) (dr w))
  (o pr E w (sBinC .eql 209 a2 (Value.int IntKind.i64 2) 209) fun t30 w =>
 condP t30 ((fun w =>
 oz pr (sFA 162 t7 1) fun t31 =>
 oa pr w (sLoad 3 t31) fun t32 =>
 oz pr (sFA 162 t5 0) fun t33 =>
 oa pr w (sLoad 3 t33) fun t34 =>
 oz pr (sFA 162 t8 1) fun t35 =>
 o pr E w (sStore 3 t35 t32) fun _ w =>
 rk pr w (sLoad 3 t33) t34 ∧
 oz pr (sFA 162 t9 0) fun t36 =>
 o pr E w (sStore 3 t36 t34) fun _ w =>
 j1 [] w) (dr w))
  (o pr E w (sBinC .eql 209 a2 (Value.int IntKind.i64 3) 209) fun t38 w =>
 condP t38 ((fun w =>
 oz pr (sFA 162 t7 0) fun t39 =>
 oa pr w (sLoad 3 t39) fun t40 =>
 oz pr (sBinC .add 3 t40 (Value.int IntKind.i64 1) 3) fun t41 =>
 oz pr (sFA 162 t5 1) fun t42 =>
 oa pr w (sLoad 3 t42) fun t43 =>
 oz pr (sBinC .sub 3 t43 (Value.int IntKind.i64 1) 3) fun t44 =>
 oz pr (sFA 162 t8 0) fun t45 =>
 o pr E w (sStore 3 t45 t41) fun _ w =>
 rk pr w (sLoad 3 t42) t43 ∧
 oz pr (sFA 162 t9 1) fun t46 =>
 o pr E w (sStore 3 t46 t44) fun _ w =>
 j1 [] w) (dr w))
  (o pr E w (sBinC .eql 209 a2 (Value.int IntKind.i64 1) 209) fun t48 w =>
 condP t48 ((fun w =>
 oz pr (sFA 162 t7 0) fun t49 =>
 oa pr w (sLoad 3 t49) fun t50 =>
 oz pr (sFA 162 t5 1) fun t51 =>
 oa pr w (sLoad 3 t51) fun t52 =>
 oz pr (sFA 162 t8 0) fun t53 =>
 o pr E w (sStore 3 t53 t50) fun _ w =>
 rk pr w (sLoad 3 t51) t52 ∧
 oz pr (sFA 162 t9 1) fun t54 =>
 o pr E w (sStore 3 t54 t52) fun _ w =>
 j1 [] w) (dr w))
  (o pr E w (sBinC .eql 209 a2 (Value.int IntKind.i64 4) 209) fun t56 w =>
 condP t56 ((fun w =>
 oa pr w (sLoad 162 t7) fun t57 =>
 oa pr w (sLoad 162 t5) fun t58 =>
 o pr E w (sStore 162 t8 t57) fun _ w =>
 rk pr w (sLoad 162 t5) t58 ∧
 o pr E w (sStore 162 t9 t58) fun _ w =>
 j1 [] w) (dr w))
  (o pr E w (sBinC .eql 209 a2 (Value.int IntKind.i64 5) 209) fun t60 w =>
 condP t60 ((fun w =>
 oa pr w (sLoad 162 t5) fun t61 =>
 oa pr w (sLoad 162 t7) fun t62 =>
 oa pr w (sLoad 162 t7) fun t64 =>
 oa pr w (sLoad 162 t5) fun t65 =>
 cl pr E w n_domain_without #[t61, t62] fun t63 w =>
 rk pr w (sLoad 162 t5) t65 ∧
 rk pr w (sLoad 162 t7) t64 ∧
 cl pr E w n_domain_without #[t64, t65] fun t66 w =>
 o pr E w (sStore 162 t8 t63) fun _ w =>
 o pr E w (sStore 162 t9 t66) fun _ w =>
 j1 [] w) (dr w))
  (j1 [] w))))))
def lv_ds_Bounds : Lives := [(1, [2, 5, 7, 8, 9]), (2, [2, 5, 7, 8, 9]), (3, [5, 7, 8, 9, 18]), (4, [5, 7, 8, 9, 18, 19]), (6, [5, 7, 8, 9, 18, 29]), (8, [5, 7, 8, 9, 18, 37]), (10, [5, 7, 8, 9, 18, 47]), (12, [5, 7, 8, 9, 18, 55]), (14, [5, 7, 8, 9, 59]), (15, [5, 7, 8, 9]), (16, [7, 8, 9, 13]), (17, [8, 9, 13, 15])]
theorem sh_ds_Bounds_ok (a0 a1 a2 a3 : Value) (w : World) (R : Ending → World → Prop)
 (h : sh_ds_Bounds (fun v w => R (.returned v) w) (fun c w => R (.panicked c) w) a0 a1 a2 a3 w) : Calls pr n_ds_Bounds #[a0, a1, a2, a3] w R :=
 calls_of_W (A := lv_ds_Bounds) enters mixed Go.Proofs.Tryz.func249 (by kernel_rfl) (by kernel_rfl) (by kernel_rfl)
  (Eq.mp (by kernel_rfl) h)
def sh_ds_Join (K : Value → World → Prop) (E : PanicK) (a0 a1 a2 : Value) (w : World) : Prop :=
 o pr E w (sBox 166 a0) fun _ w =>
 o pr E w (sBox 162 a1) fun t4 w =>
 o pr E w (sBox 162 a2) fun t5 w =>
 o pr E w (sAlloc 162) fun t6 w =>
 o pr E w (sFA 162 t4 0) fun t7 w =>
 o pr E w (sLoad 3 t7) fun t8 w =>
 o pr E w (sFA 162 t4 1) fun t9 w =>
 o pr E w (sLoad 3 t9) fun t10 w =>
 o pr E w (sFA 162 t5 0) fun t11 w =>
 o pr E w (sLoad 3 t11) fun t12 w =>
 o pr E w (sFA 162 t5 1) fun t13 w =>
 o pr E w (sLoad 3 t13) fun t14 w =>
 o pr E w (sBuildSlice 22 3 [(0, t10), (1, t12), (2, t14)]) fun t15 w =>
 cl pr E w n_domain_hull #[t8, t15] fun t16 w =>
 o pr E w (sStore 162 t6 t16) fun _ w =>
 rs pr w t6 162 fun v0_0 =>
 K v0_0 w
def lv_ds_Join : Lives := [(1, [4, 5, 6])]
theorem sh_ds_Join_ok (a0 a1 a2 : Value) (w : World) (R : Ending → World → Prop)
 (h : sh_ds_Join (fun v w => R (.returned v) w) (fun c w => R (.panicked c) w) a0 a1 a2 w) : Calls pr n_ds_Join #[a0, a1, a2] w R :=
 calls_of_W (A := lv_ds_Join) enters mixed Go.Proofs.Tryz.func250 (by kernel_rfl) (by kernel_rfl) (by kernel_rfl)
  (Eq.mp (by kernel_rfl) h)
def sh_ds_Meet (K : Value → World → Prop) (E : PanicK) (a0 a1 a2 : Value) (w : World) : Prop :=
 o pr E w (sBox 166 a0) fun _ w =>
 o pr E w (sBox 162 a1) fun t4 w =>
 o pr E w (sBox 162 a2) fun t5 w =>
 o pr E w (sAlloc 162) fun t6 w =>
 o pr E w (sFA 162 t4 0) fun t9 w =>
 o pr E w (sLoad 3 t9) fun t10 w =>
 o pr E w (sFA 162 t5 0) fun t11 w =>
 o pr E w (sLoad 3 t11) fun t12 w =>
 o pr E w (sB .max [3, 3] 3 [t10, t12]) fun t13 w =>
 o pr E w (sFA 162 t4 1) fun t14 w =>
 o pr E w (sLoad 3 t14) fun t15 w =>
 o pr E w (sFA 162 t5 1) fun t16 w =>
 o pr E w (sLoad 3 t16) fun t17 w =>
 o pr E w (sB .min [3, 3] 3 [t15, t17]) fun t18 w =>
 o pr E w (sBuild 162 [(0, t13), (1, t18)]) fun t19 w =>
 o pr E w (sAlloc 162) fun t8 w =>
 o pr E w (sStore 162 t8 t19) fun _ w =>
 (fun w =>
 oa pr w (sLoad 162 t8) fun t20 =>
 oz pr (sFA 162 t8 0) fun t21 =>
 oa pr w (sLoad 3 t21) fun t22 =>
 oz pr (sFA 162 t8 1) fun t23 =>
 oa pr w (sLoad 3 t23) fun t24 =>
 oz pr (sBin .leq 3 t22 t24 3) fun t25 =>
 o pr E w (sStore 162 t6 t20) fun _ w =>
 rk pr w (sLoad 3 t23) t24 ∧
 rk pr w (sLoad 3 t21) t22 ∧
 rs pr w t6 162 fun v0_0 =>
 K (.tuple #[v0_0, t25]) w) (dr w)
def lv_ds_Meet : Lives := [(1, [4, 5, 6]), (2, [6, 8])]
theorem sh_ds_Meet_ok (a0 a1 a2 : Value) (w : World) (R : Ending → World → Prop)
 (h : sh_ds_Meet (fun v w => R (.returned v) w) (fun c w => R (.panicked c) w) a0 a1 a2 w) : Calls pr n_ds_Meet #[a0, a1, a2] w R :=
 calls_of_W (A := lv_ds_Meet) enters mixed Go.Proofs.Tryz.func251 (by kernel_rfl) (by kernel_rfl) (by kernel_rfl)
  (Eq.mp (by kernel_rfl) h)
def sh_ds_Minus (K : Value → World → Prop) (E : PanicK) (a0 a1 : Value) (w : World) : Prop :=
 o pr E w (sBox 166 a0) fun _ w =>
 o pr E w (sBox 162 a1) fun t3 w =>
 o pr E w (sAlloc 162) fun t4 w =>
 o pr E w (sFA 162 t3 1) fun t5 w =>
 o pr E w (sLoad 3 t5) fun t6 w =>
 o pr E w (sUn .neg 3 t6) fun t7 w =>
 o pr E w (sFA 162 t3 0) fun t8 w =>
 o pr E w (sLoad 3 t8) fun t9 w =>
 o pr E w (sUn .neg 3 t9) fun t10 w =>
 cl pr E w n_domain_fit #[t7, t10] fun t11 w =>
 o pr E w (sStore 162 t4 t11) fun _ w =>
 rs pr w t4 162 fun v0_0 =>
 K v0_0 w
def lv_ds_Minus : Lives := [(1, [3, 4])]
theorem sh_ds_Minus_ok (a0 a1 : Value) (w : World) (R : Ending → World → Prop)
 (h : sh_ds_Minus (fun v w => R (.returned v) w) (fun c w => R (.panicked c) w) a0 a1 w) : Calls pr n_ds_Minus #[a0, a1] w R :=
 calls_of_W (A := lv_ds_Minus) enters mixed Go.Proofs.Tryz.func252 (by kernel_rfl) (by kernel_rfl) (by kernel_rfl)
  (Eq.mp (by kernel_rfl) h)
def sh_ds_Narrow (K : Value → World → Prop) (E : PanicK) (a0 a1 a2 : Value) (w : World) : Prop :=
 ∃ j1 : List Value → World → Prop, (∀ (e1 : Nat → Value) w, j1 [e1 4, e1 5, e1 6] w →
 ∃ j2 : List Value → World → Prop, (∀ (e2 : Nat → Value) w, j2 [] w →
 o pr E w (sLoad 162 (e1 4)) fun t19 w =>
 o pr E w (sStore 162 (e1 6) t19) fun _ w =>
 rs pr w (e1 6) 162 fun v0_0 =>
 K v0_0 w) ∧
 o pr E w (sFA 162 (e1 4) 1) fun t13 w =>
 o pr E w (sLoad 3 t13) fun t14 w =>
 o pr E w (sBinC .eql 3 t14 (Value.int IntKind.i64 32767) 3) fun t15 w =>
 condP t15 (o pr E w (sFA 162 (e1 5) 1) fun t16 w =>
 o pr E w (sLoad 3 t16) fun t17 w =>
 o pr E w (sFA 162 (e1 4) 1) fun t18 w =>
 o pr E w (sStore 3 t18 t17) fun _ w =>
 j2 [] w)
  (j2 [] w)) ∧
 o pr E w (sBox 166 a0) fun _ w =>
 o pr E w (sBox 162 a1) fun t4 w =>
 o pr E w (sBox 162 a2) fun t5 w =>
 o pr E w (sAlloc 162) fun t6 w =>
 o pr E w (sFA 162 t4 0) fun t7 w =>
 o pr E w (sLoad 3 t7) fun t8 w =>
 o pr E w (sBinC .eql 3 t8 (Value.int IntKind.i64 (-32768)) 3) fun t9 w =>
 condP t9 (o pr E w (sFA 162 t5 0) fun t10 w =>
 o pr E w (sLoad 3 t10) fun t11 w =>
 o pr E w (sFA 162 t4 0) fun t12 w =>
 o pr E w (sStore 3 t12 t11) fun _ w =>
 j1 [t4, t5, t6] w)
  (j1 [t4, t5, t6] w)
def lv_ds_Narrow : Lives := [(1, [4, 5, 6]), (2, [4, 5, 6, 9]), (3, [4, 5, 6]), (4, [4, 5, 6, 15]), (5, [4, 6])]
theorem sh_ds_Narrow_ok (a0 a1 a2 : Value) (w : World) (R : Ending → World → Prop)
 (h : sh_ds_Narrow (fun v w => R (.returned v) w) (fun c w => R (.panicked c) w) a0 a1 a2 w) : Calls pr n_ds_Narrow #[a0, a1, a2] w R :=
 calls_of_W (A := lv_ds_Narrow) enters mixed Go.Proofs.Tryz.func253 (by kernel_rfl) (by kernel_rfl) (by kernel_rfl)
  (Eq.mp (by kernel_rfl) h)
def sh_ds_Only (K : Value → World → Prop) (E : PanicK) (a0 a1 : Value) (w : World) : Prop :=
 o pr E w (sBox 166 a0) fun _ w =>
 o pr E w (sAlloc 162) fun t4 w =>
 o pr E w (sBuild 162 [(0, a1), (1, a1)]) fun t7 w =>
 o pr E w (sStore 162 t4 t7) fun _ w =>
 rs pr w t4 162 fun v0_0 =>
 K v0_0 w
def lv_ds_Only : Lives := [(1, [1, 4])]
theorem sh_ds_Only_ok (a0 a1 : Value) (w : World) (R : Ending → World → Prop)
 (h : sh_ds_Only (fun v w => R (.returned v) w) (fun c w => R (.panicked c) w) a0 a1 w) : Calls pr n_ds_Only #[a0, a1] w R :=
 calls_of_W (A := lv_ds_Only) enters mixed Go.Proofs.Tryz.func254 (by kernel_rfl) (by kernel_rfl) (by kernel_rfl)
  (Eq.mp (by kernel_rfl) h)
def sh_ds_Tell (K : Value → World → Prop) (E : PanicK) (a0 a1 : Value) (w : World) : Prop :=
 o pr E w (sBox 166 a0) fun _ w =>
 o pr E w (sBox 162 a1) fun t3 w =>
 o pr E w (sAlloc 100) fun t4 w =>
 o pr E w (sFA 162 t3 0) fun t5 w =>
 o pr E w (sLoad 3 t5) fun t6 w =>
 o pr E w (sFA 162 t3 1) fun t7 w =>
 o pr E w (sLoad 3 t7) fun t8 w =>
 o pr E w (sBuild 100 [(0, t6), (1, t8)]) fun t9 w =>
 o pr E w (sStore 100 t4 t9) fun _ w =>
 rs pr w t4 100 fun v0_0 =>
 K v0_0 w
def lv_ds_Tell : Lives := [(1, [3, 4])]
theorem sh_ds_Tell_ok (a0 a1 : Value) (w : World) (R : Ending → World → Prop)
 (h : sh_ds_Tell (fun v w => R (.returned v) w) (fun c w => R (.panicked c) w) a0 a1 w) : Calls pr n_ds_Tell #[a0, a1] w R :=
 calls_of_W (A := lv_ds_Tell) enters mixed Go.Proofs.Tryz.func255 (by kernel_rfl) (by kernel_rfl) (by kernel_rfl)
  (Eq.mp (by kernel_rfl) h)
def sh_ds_Two (K : Value → World → Prop) (E : PanicK) (a0 a1 a2 a3 : Value) (w : World) : Prop :=
 o pr E w (sBox 166 a0) fun _ w =>
 o pr E w (sBox 162 a2) fun t6 w =>
 o pr E w (sBox 162 a3) fun t7 w =>
 o pr E w (sAlloc 162) fun t8 w =>
 o pr E w (sBinC .eql 5 a1 (Value.int IntKind.u8 43) 5) fun t17 w =>
 condP t17 (o pr E w (sFA 162 t6 0) fun t18 w =>
 o pr E w (sLoad 3 t18) fun t19 w =>
 o pr E w (sFA 162 t7 0) fun t20 w =>
 o pr E w (sLoad 3 t20) fun t21 w =>
 o pr E w (sBin .add 3 t19 t21 3) fun t22 w =>
 o pr E w (sFA 162 t6 1) fun t23 w =>
 o pr E w (sLoad 3 t23) fun t24 w =>
 o pr E w (sFA 162 t7 1) fun t25 w =>
 o pr E w (sLoad 3 t25) fun t26 w =>
 o pr E w (sBin .add 3 t24 t26 3) fun t27 w =>
 cl pr E w n_domain_fit #[t22, t27] fun t28 w =>
 o pr E w (sStore 162 t8 t28) fun _ w =>
 rs pr w t8 162 fun v0_0 =>
 K (.tuple #[v0_0, (Value.bool true)]) w)
  (o pr E w (sBinC .eql 5 a1 (Value.int IntKind.u8 45) 5) fun t30 w =>
 condP t30 (o pr E w (sFA 162 t6 0) fun t31 w =>
 o pr E w (sLoad 3 t31) fun t32 w =>
 o pr E w (sFA 162 t7 1) fun t33 w =>
 o pr E w (sLoad 3 t33) fun t34 w =>
 o pr E w (sBin .sub 3 t32 t34 3) fun t35 w =>
 o pr E w (sFA 162 t6 1) fun t36 w =>
 o pr E w (sLoad 3 t36) fun t37 w =>
 o pr E w (sFA 162 t7 0) fun t38 w =>
 o pr E w (sLoad 3 t38) fun t39 w =>
 o pr E w (sBin .sub 3 t37 t39 3) fun t40 w =>
 cl pr E w n_domain_fit #[t35, t40] fun t41 w =>
 o pr E w (sStore 162 t8 t41) fun _ w =>
 rs pr w t8 162 fun v0_1 =>
 K (.tuple #[v0_1, (Value.bool true)]) w)
  (o pr E w (sBinC .eql 5 a1 (Value.int IntKind.u8 42) 5) fun t43 w =>
 condP t43 (o pr E w (sFA 162 t6 0) fun t44 w =>
 o pr E w (sLoad 3 t44) fun t45 w =>
 o pr E w (sFA 162 t7 0) fun t46 w =>
 o pr E w (sLoad 3 t46) fun t47 w =>
 o pr E w (sBin .mul 3 t45 t47 3) fun t48 w =>
 o pr E w (sFA 162 t6 0) fun t49 w =>
 o pr E w (sLoad 3 t49) fun t50 w =>
 o pr E w (sFA 162 t7 1) fun t51 w =>
 o pr E w (sLoad 3 t51) fun t52 w =>
 o pr E w (sBin .mul 3 t50 t52 3) fun t53 w =>
 o pr E w (sFA 162 t6 1) fun t54 w =>
 o pr E w (sLoad 3 t54) fun t55 w =>
 o pr E w (sFA 162 t7 0) fun t56 w =>
 o pr E w (sLoad 3 t56) fun t57 w =>
 o pr E w (sBin .mul 3 t55 t57 3) fun t58 w =>
 o pr E w (sFA 162 t6 1) fun t59 w =>
 o pr E w (sLoad 3 t59) fun t60 w =>
 o pr E w (sFA 162 t7 1) fun t61 w =>
 o pr E w (sLoad 3 t61) fun t62 w =>
 o pr E w (sBin .mul 3 t60 t62 3) fun t63 w =>
 o pr E w (sBuildSlice 22 3 [(0, t53), (1, t58), (2, t63)]) fun t64 w =>
 cl pr E w n_domain_hull #[t48, t64] fun t65 w =>
 o pr E w (sAlloc 162) fun t10 w =>
 o pr E w (sStore 162 t10 t65) fun _ w =>
 o pr E w (sFA 162 t10 0) fun t66 w =>
 o pr E w (sLoad 3 t66) fun t67 w =>
 o pr E w (sFA 162 t10 1) fun t68 w =>
 o pr E w (sLoad 3 t68) fun t69 w =>
 cl pr E w n_domain_fit #[t67, t69] fun t70 w =>
 o pr E w (sStore 162 t8 t70) fun _ w =>
 rs pr w t8 162 fun v0_2 =>
 K (.tuple #[v0_2, (Value.bool true)]) w)
  ((fun (k9 : Value → World → Prop) =>
 o pr E w (sFA 162 t7 0) fun t71 w =>
 o pr E w (sLoad 3 t71) fun t72 w =>
 o pr E w (sBinC .eql 3 t72 (Value.int IntKind.i64 0) 3) fun t73 w =>
 condG t73 true (o pr E w (sFA 162 t7 1) fun t75 w =>
 o pr E w (sLoad 3 t75) fun t76 w =>
 o pr E w (sBinC .eql 3 t76 (Value.int IntKind.i64 0) 3) fun t77 w =>
 o pr E w (sPick t73 t77 (Value.bool false)) fun t78_1 w =>
 k9 t78_1 w)
  (o pr E w (sPick t73 undef (Value.bool false)) fun t78_2 w =>
 k9 t78_2 w))
 (fun t78 w =>
 condP t78 (o pr E w (sLoad 162 t7) fun t79 w =>
 o pr E w (sStore 162 t8 t79) fun _ w =>
 rs pr w t8 162 fun v0_3 =>
 K (.tuple #[v0_3, (Value.bool false)]) w)
  (o pr E w (sBinC .eql 5 a1 (Value.int IntKind.u8 37) 5) fun t81 w =>
 condP t81 (o pr E w (sFA 162 t7 0) fun t82 w =>
 o pr E w (sLoad 3 t82) fun t83 w =>
 o pr E w (sUn .neg 3 t83) fun t84 w =>
 o pr E w (sFA 162 t7 1) fun t85 w =>
 o pr E w (sLoad 3 t85) fun t86 w =>
 o pr E w (sB .max [3, 3] 3 [t84, t86]) fun t87 w =>
 o pr E w (sBinC .sub 3 t87 (Value.int IntKind.i64 1) 3) fun t88 w =>
 o pr E w (sFA 162 t6 0) fun t89 w =>
 o pr E w (sLoad 3 t89) fun t90 w =>
 o pr E w (sB .min [3, 3] 3 [t90, (Value.int IntKind.i64 0)]) fun t91 w =>
 o pr E w (sUn .neg 3 t88) fun t93 w =>
 o pr E w (sB .max [3, 3] 3 [t91, t93]) fun t94 w =>
 o pr E w (sFA 162 t6 1) fun t95 w =>
 o pr E w (sLoad 3 t95) fun t96 w =>
 o pr E w (sB .max [3, 3] 3 [t96, (Value.int IntKind.i64 0)]) fun t97 w =>
 o pr E w (sB .min [3, 3] 3 [t97, t88]) fun t99 w =>
 o pr E w (sBuild 162 [(0, t94), (1, t99)]) fun t100 w =>
 o pr E w (sStore 162 t8 t100) fun _ w =>
 rs pr w t8 162 fun v0_4 =>
 K (.tuple #[v0_4, (Value.bool true)]) w)
  (o pr E w (sAlloc 22) fun t12 w =>
 o pr E w (sFunc (.func n_ds_Two_1) [] [t12, t6]) fun t101 w =>
 o pr E w (sFA 162 t7 0) fun t103 w =>
 o pr E w (sLoad 3 t103) fun t104 w =>
 o pr E w (sFA 162 t7 1) fun t105 w =>
 o pr E w (sLoad 3 t105) fun t106 w =>
 o pr E w (sB .min [3, 3] 3 [t106, (Value.int IntKind.i64 (-1))]) fun t107 w =>
 o pr E w (sCall t101 [t104, t107]) fun _ w =>
 o pr E w (sFA 162 t7 0) fun t110 w =>
 o pr E w (sLoad 3 t110) fun t111 w =>
 o pr E w (sB .max [3, 3] 3 [t111, (Value.int IntKind.i64 1)]) fun t112 w =>
 o pr E w (sFA 162 t7 1) fun t113 w =>
 o pr E w (sLoad 3 t113) fun t114 w =>
 o pr E w (sCall t101 [t112, t114]) fun _ w =>
 (fun w =>
 oa pr w (sLoad 22 t12) fun t116 =>
 oz pr (sIA 22 t116 (Value.int IntKind.i64 0)) fun t117 =>
 oa pr w (sLoad 3 t117) fun t118 =>
 oa pr w (sLoad 22 t12) fun t119 =>
 (cl pr E w n_domain_hull #[t118, t119] fun t120 w =>
 o pr E w (sAlloc 162) fun t14 w =>
 o pr E w (sStore 162 t14 t120) fun _ w =>
 o pr E w (sFA 162 t14 0) fun t121 w =>
 o pr E w (sLoad 3 t121) fun t122 w =>
 o pr E w (sFA 162 t14 1) fun t123 w =>
 o pr E w (sLoad 3 t123) fun t124 w =>
 cl pr E w n_domain_fit #[t122, t124] fun t125 w =>
 o pr E w (sStore 162 t8 t125) fun _ w =>
 rs pr w t8 162 fun v0_5 =>
 K (.tuple #[v0_5, (Value.bool true)]) w) ∧
 (o pr E w (sAlloc 162) fun t14_1 w =>
 rk pr w (sLoad 22 t12) t119 ∧
 rk pr w (sLoad 3 t117) t118 ∧
 rk pr w (sLoad 22 t12) t116 ∧
 cl pr E w n_domain_hull #[t118, t119] fun t120_1 w =>
 o pr E w (sStore 162 t14_1 t120_1) fun _ w =>
 o pr E w (sFA 162 t14_1 0) fun t121_1 w =>
 o pr E w (sLoad 3 t121_1) fun t122_1 w =>
 o pr E w (sFA 162 t14_1 1) fun t123_1 w =>
 o pr E w (sLoad 3 t123_1) fun t124_1 w =>
 cl pr E w n_domain_fit #[t122_1, t124_1] fun t125_1 w =>
 o pr E w (sStore 162 t8 t125_1) fun _ w =>
 rs pr w t8 162 fun v0_6 =>
 K (.tuple #[v0_6, (Value.bool true)]) w)) (dr w)))))))
def lv_ds_Two : Lives := [(1, [1, 6, 7, 8]), (2, [1, 6, 7, 8, 15]), (3, [1, 6, 7, 8, 15, 16]), (5, [1, 6, 7, 8, 15, 29]), (7, [1, 6, 7, 8, 42]), (8, [8, 10]), (9, [1, 6, 7, 8]), (10, [1, 6, 7, 8, 78]), (11, [1, 6, 7, 8]), (12, [6, 7, 8, 81]), (13, [6, 8, 11]), (14, [6, 7, 8]), (15, [6, 7, 8, 12]), (16, [7, 8, 12, 13]), (17, [7, 8, 12, 13]), (18, [8, 12]), (19, [8, 14])]
theorem sh_ds_Two_ok (a0 a1 a2 a3 : Value) (w : World) (R : Ending → World → Prop)
 (h : sh_ds_Two (fun v w => R (.returned v) w) (fun c w => R (.panicked c) w) a0 a1 a2 a3 w) : Calls pr n_ds_Two #[a0, a1, a2, a3] w R :=
 calls_of_W (A := lv_ds_Two) enters mixed Go.Proofs.Tryz.func256 (by kernel_rfl) (by kernel_rfl) (by kernel_rfl)
  (Eq.mp (by kernel_rfl) h)
def sh_ds_Whole (K : Value → World → Prop) (E : PanicK) (a0 : Value) (w : World) : Prop :=
 o pr E w (sBox 166 a0) fun _ w =>
 o pr E w (sAlloc 162) fun t2 w =>
 o pr E w (sBuild 162 [(0, (Value.int IntKind.i64 (-32768))), (1, (Value.int IntKind.i64 32767))]) fun t3 w =>
 o pr E w (sStore 162 t2 t3) fun _ w =>
 rs pr w t2 162 fun v0_0 =>
 K v0_0 w
def lv_ds_Whole : Lives := [(1, [2])]
theorem sh_ds_Whole_ok (a0 : Value) (w : World) (R : Ending → World → Prop)
 (h : sh_ds_Whole (fun v w => R (.returned v) w) (fun c w => R (.panicked c) w) a0 w) : Calls pr n_ds_Whole #[a0] w R :=
 calls_of_W (A := lv_ds_Whole) enters mixed Go.Proofs.Tryz.func257 (by kernel_rfl) (by kernel_rfl) (by kernel_rfl)
  (Eq.mp (by kernel_rfl) h)
def sh_ds_Widen (K : Value → World → Prop) (E : PanicK) (a0 a1 a2 : Value) (w : World) : Prop :=
 o pr E w (sBox 166 a0) fun t3 w =>
 o pr E w (sBox 162 a1) fun t4 w =>
 o pr E w (sBox 162 a2) fun t5 w =>
 o pr E w (sAlloc 162) fun t6 w =>
 ∃ j1 : List Value → World → Prop, (∀ (e1 : Nat → Value) w, j1 [e1 8] w →
 ∃ j2 : List Value → World → Prop, (∀ (e2 : Nat → Value) w, j2 [] w →
 o pr E w (sLoad 162 t4) fun t47 w =>
 o pr E w (sStore 162 t6 t47) fun _ w =>
 rs pr w t6 162 fun v0_0 =>
 K v0_0 w) ∧
 o pr E w (sFA 162 t5 1) fun t40 w =>
 o pr E w (sLoad 3 t40) fun t41 w =>
 o pr E w (sFA 162 t4 1) fun t42 w =>
 o pr E w (sLoad 3 t42) fun t43 w =>
 o pr E w (sBin .gtr 3 t41 t43 3) fun t44 w =>
 condP t44 (o pr E w (sFA 162 t4 1) fun t46 w =>
 o pr E w (sStore 3 t46 (e1 8)) fun _ w =>
 j2 [] w)
  (j2 [] w)) ∧
 o pr E w (sFA 166 t3 0) fun t11 w =>
 o pr E w (sLoad 22 t11) fun t12 w =>
 o pr E w (sB .len [22] 3 [t12]) fun t13 w =>
 ∃ (I3 : List Value → World → Prop) (m3 : List Value → World → Nat), I3 [(Value.int IntKind.i64 (-32768)), (Value.int IntKind.i64 32767), (Value.int IntKind.i64 0)] w ∧
 ∀ (e3 : Nat → Value) w3, I3 [e3 7, e3 8, e3 14] w3 → (fun w =>
 o pr E w (sBin .lss 3 (e3 14) t13 3) fun t15 w =>
 ∃ j4 : List Value → World → Prop, (∀ (e4 : Nat → Value) w, j4 [e4 7, e4 8] w →
 o pr E w (sBinC .add 3 (e3 14) (Value.int IntKind.i64 1) 3) fun t32 w =>
 I3 [(e4 7), (e4 8), t32] w ∧ m3 [(e4 7), (e4 8), t32] w < m3 [e3 7, e3 8, e3 14] w3) ∧
 condP t15 (∃ j5 : List Value → World → Prop, (∀ (e5 : Nat → Value) w, j5 [e5 7, e5 10] w →
 o pr E w (sFA 162 t5 1) fun t26 w =>
 o pr E w (sLoad 3 t26) fun t27 w =>
 o pr E w (sBin .geq 3 (e5 10) t27 3) fun t28 w =>
 condP t28 (o pr E w (sB .min [3, 3] 3 [(e3 8), (e5 10)]) fun t31 w =>
 j4 [(e5 7), t31] w)
  (j4 [(e5 7), (e3 8)] w)) ∧
 o pr E w (sIA 22 t12 (e3 14)) fun t16 w =>
 o pr E w (sLoad 3 t16) fun t17 w =>
 o pr E w (sFA 162 t5 0) fun t19 w =>
 o pr E w (sLoad 3 t19) fun t20 w =>
 o pr E w (sBin .leq 3 t17 t20 3) fun t21 w =>
 condP t21 (o pr E w (sB .max [3, 3] 3 [(e3 7), t17]) fun t24 w =>
 j5 [t24, t17] w)
  (j5 [(e3 7), t17] w))
  (o pr E w (sFA 162 t5 0) fun t33 w =>
 o pr E w (sLoad 3 t33) fun t34 w =>
 o pr E w (sFA 162 t4 0) fun t35 w =>
 o pr E w (sLoad 3 t35) fun t36 w =>
 o pr E w (sBin .lss 3 t34 t36 3) fun t37 w =>
 condP t37 (o pr E w (sFA 162 t4 0) fun t39 w =>
 o pr E w (sStore 3 t39 (e3 7)) fun _ w =>
 j1 [(e3 8)] w)
  (j1 [(e3 8)] w))) w3
def lv_ds_Widen : Lives := [(1, [3, 4, 5, 6]), (2, [3, 4, 5, 6, 7, 8]), (3, [4, 5, 6, 7, 8, 12, 13, 14]), (4, [4, 5, 6, 7, 8, 12, 13, 14, 15]), (5, [4, 5, 6, 7, 8, 10, 12, 13, 14]), (6, [4, 5, 6, 7, 8, 10, 12, 13, 14, 21]), (7, [4, 5, 6, 7, 8, 10, 12, 13, 14]), (8, [4, 5, 6, 7, 8, 10, 12, 13, 14, 28]), (9, [4, 5, 6, 7, 8, 12, 13, 14]), (10, [4, 5, 6, 7, 8]), (11, [4, 5, 6, 7, 8, 37]), (12, [4, 5, 6, 8]), (13, [4, 6, 8, 44]), (14, [4, 6])]
theorem sh_ds_Widen_ok (a0 a1 a2 : Value) (w : World) (R : Ending → World → Prop)
 (h : sh_ds_Widen (fun v w => R (.returned v) w) (fun c w => R (.panicked c) w) a0 a1 a2 w) : Calls pr n_ds_Widen #[a0, a1, a2] w R :=
 calls_of_W (A := lv_ds_Widen) enters mixed Go.Proofs.Tryz.func258 (by kernel_rfl) (by kernel_rfl) (by kernel_rfl)
  (Eq.mp (by kernel_rfl) h)
def sh_ds_Zero (K : Value → World → Prop) (E : PanicK) (a0 a1 : Value) (w : World) : Prop :=
 o pr E w (sBox 166 a0) fun _ w =>
 o pr E w (sBox 162 a1) fun t3 w =>
 (fun (k1 : Value → World → Prop) =>
 o pr E w (sFA 162 t3 0) fun t5 w =>
 o pr E w (sLoad 3 t5) fun t6 w =>
 o pr E w (sBinC .leq 3 t6 (Value.int IntKind.i64 0) 3) fun t7 w =>
 condG t7 true (o pr E w (sFA 162 t3 1) fun t9 w =>
 o pr E w (sLoad 3 t9) fun t10 w =>
 o pr E w (sBinL .leq 3 (Value.int IntKind.i64 0) t10 3) fun t11 w =>
 o pr E w (sPick t7 t11 (Value.bool false)) fun t12 w =>
 k1 t12 w)
  (o pr E w (sPick t7 undef (Value.bool false)) fun t12_1 w =>
 k1 t12_1 w))
 (fun t4 w =>
 K t4 w)
def lv_ds_Zero : Lives := [(1, [3])]
theorem sh_ds_Zero_ok (a0 a1 : Value) (w : World) (R : Ending → World → Prop)
 (h : sh_ds_Zero (fun v w => R (.returned v) w) (fun c w => R (.panicked c) w) a0 a1 w) : Calls pr n_ds_Zero #[a0, a1] w R :=
 calls_of_W (A := lv_ds_Zero) enters mixed Go.Proofs.Tryz.func259 (by kernel_rfl) (by kernel_rfl) (by kernel_rfl)
  (Eq.mp (by kernel_rfl) h)
def sh_domain_without (K : Value → World → Prop) (E : PanicK) (a0 a1 : Value) (w : World) : Prop :=
 o pr E w (sBox 162 a0) fun t2 w =>
 o pr E w (sBox 162 a1) fun t3 w =>
 o pr E w (sAlloc 162) fun t4 w =>
 o pr E w (sBuild 162 [(0, (Value.int IntKind.i64 (-32768))), (1, (Value.int IntKind.i64 32767))]) fun t6 w =>
 o pr E w (sAlloc 162) fun t5 w =>
 o pr E w (sStore 162 t5 t6) fun _ w =>
 ∃ j1 : List Value → World → Prop, (∀ (e1 : Nat → Value) w, j1 [] w →
 ∃ j2 : List Value → World → Prop, (∀ (e2 : Nat → Value) w, j2 [] w →
 o pr E w (sLoad 162 t5) fun t31 w =>
 o pr E w (sStore 162 t4 t31) fun _ w =>
 rs pr w t4 162 fun v0_0 =>
 K v0_0 w) ∧
 o pr E w (sFA 162 t2 1) fun t22 w =>
 o pr E w (sLoad 3 t22) fun t23 w =>
 o pr E w (sFA 162 t3 0) fun t24 w =>
 o pr E w (sLoad 3 t24) fun t25 w =>
 o pr E w (sBin .eql 3 t23 t25 3) fun t26 w =>
 condP t26 (o pr E w (sFA 162 t2 1) fun t27 w =>
 o pr E w (sLoad 3 t27) fun t28 w =>
 o pr E w (sBinC .sub 3 t28 (Value.int IntKind.i64 1) 3) fun t29 w =>
 o pr E w (sFA 162 t5 1) fun t30 w =>
 o pr E w (sStore 3 t30 t29) fun _ w =>
 j2 [] w)
  (j2 [] w)) ∧
 o pr E w (sFA 162 t3 0) fun t7 w =>
 o pr E w (sLoad 3 t7) fun t8 w =>
 o pr E w (sFA 162 t3 1) fun t9 w =>
 o pr E w (sLoad 3 t9) fun t10 w =>
 o pr E w (sBin .neq 3 t8 t10 3) fun t11 w =>
 condP t11 (o pr E w (sLoad 162 t5) fun t12 w =>
 o pr E w (sStore 162 t4 t12) fun _ w =>
 rs pr w t4 162 fun v0_1 =>
 K v0_1 w)
  (o pr E w (sFA 162 t2 0) fun t13 w =>
 o pr E w (sLoad 3 t13) fun t14 w =>
 o pr E w (sFA 162 t3 0) fun t15 w =>
 o pr E w (sLoad 3 t15) fun t16 w =>
 o pr E w (sBin .eql 3 t14 t16 3) fun t17 w =>
 condP t17 (o pr E w (sFA 162 t2 0) fun t18 w =>
 o pr E w (sLoad 3 t18) fun t19 w =>
 o pr E w (sBinC .add 3 t19 (Value.int IntKind.i64 1) 3) fun t20 w =>
 o pr E w (sFA 162 t5 0) fun t21 w =>
 o pr E w (sStore 3 t21 t20) fun _ w =>
 j1 [] w)
  (j1 [] w))
def lv_domain_without : Lives := [(1, [2, 3, 4]), (2, [2, 3, 4, 5]), (3, [2, 3, 4, 5, 11]), (4, [2, 3, 4, 5]), (5, [2, 3, 4, 5, 17]), (6, [2, 3, 4, 5]), (7, [2, 4, 5, 26]), (8, [4, 5])]
theorem sh_domain_without_ok (a0 a1 : Value) (w : World) (R : Ending → World → Prop)
 (h : sh_domain_without (fun v w => R (.returned v) w) (fun c w => R (.panicked c) w) a0 a1 w) : Calls pr n_domain_without #[a0, a1] w R :=
 calls_of_W (A := lv_domain_without) enters mixed Go.Proofs.Tryz.func260 (by kernel_rfl) (by kernel_rfl) (by kernel_rfl)
  (Eq.mp (by kernel_rfl) h)
def sh_domain_hull (K : Value → World → Prop) (E : PanicK) (a0 a1 : Value) (w : World) : Prop :=
 o pr E w (sAlloc 162) fun t4 w =>
 o pr E w (sBuild 162 [(0, a0), (1, a0)]) fun t10 w =>
 o pr E w (sAlloc 162) fun t5 w =>
 o pr E w (sStore 162 t5 t10) fun _ w =>
 o pr E w (sB .len [22] 3 [a1]) fun t12 w =>
 ∃ (I1 : List Value → World → Prop) (m1 : List Value → World → Nat), I1 [(Value.int IntKind.i64 0)] w ∧
 ∀ (e1 : Nat → Value) w1, I1 [e1 13] w1 → (fun w =>
 o pr E w (sBin .lss 3 (e1 13) t12 3) fun t14 w =>
 condP t14 (o pr E w (sIA 22 a1 (e1 13)) fun t15 w =>
 o pr E w (sLoad 3 t15) fun t16 w =>
 o pr E w (sFA 162 t5 0) fun t17 w =>
 o pr E w (sLoad 3 t17) fun t18 w =>
 o pr E w (sB .min [3, 3] 3 [t18, t16]) fun t20 w =>
 o pr E w (sFA 162 t5 0) fun t21 w =>
 o pr E w (sStore 3 t21 t20) fun _ w =>
 o pr E w (sFA 162 t5 1) fun t22 w =>
 o pr E w (sLoad 3 t22) fun t23 w =>
 o pr E w (sB .max [3, 3] 3 [t23, t16]) fun t25 w =>
 o pr E w (sFA 162 t5 1) fun t26 w =>
 o pr E w (sStore 3 t26 t25) fun _ w =>
 o pr E w (sBinC .add 3 (e1 13) (Value.int IntKind.i64 1) 3) fun t27 w =>
 I1 [t27] w ∧ m1 [t27] w < m1 [e1 13] w1)
  (o pr E w (sLoad 162 t5) fun t28 w =>
 o pr E w (sStore 162 t4 t28) fun _ w =>
 rs pr w t4 162 fun v0_0 =>
 K v0_0 w)) w1
def lv_domain_hull : Lives := [(1, [0, 1, 4]), (2, [1, 4, 5]), (3, [4, 5, 11, 12, 13]), (4, [4, 5, 11, 12, 13, 14]), (5, [4, 5, 7, 11, 12, 13]), (6, [4, 5, 7, 11, 12, 13]), (7, [4, 5, 11, 12, 13]), (8, [4, 5])]
theorem sh_domain_hull_ok (a0 a1 : Value) (w : World) (R : Ending → World → Prop)
 (h : sh_domain_hull (fun v w => R (.returned v) w) (fun c w => R (.panicked c) w) a0 a1 w) : Calls pr n_domain_hull #[a0, a1] w R :=
 calls_of_W (A := lv_domain_hull) enters mixed Go.Proofs.Tryz.func261 (by kernel_rfl) (by kernel_rfl) (by kernel_rfl)
  (Eq.mp (by kernel_rfl) h)
def sh_domain_fit (K : Value → World → Prop) (E : PanicK) (a0 a1 : Value) (w : World) : Prop :=
 o pr E w (sAlloc 162) fun t4 w =>
 (fun (k1 : Value → World → Prop) =>
 o pr E w (sBinC .lss 3 a0 (Value.int IntKind.i64 (-32768)) 3) fun t6 w =>
 condG t6 false (o pr E w (sBinC .gtr 3 a1 (Value.int IntKind.i64 32767) 3) fun t9 w =>
 o pr E w (sPick t6 (Value.bool true) t9) fun t10_1 w =>
 k1 t10_1 w)
  (o pr E w (sPick t6 (Value.bool true) undef) fun t10_2 w =>
 k1 t10_2 w))
 (fun t10 w =>
 condP t10 (o pr E w (sBuild 162 [(0, (Value.int IntKind.i64 (-32768))), (1, (Value.int IntKind.i64 32767))]) fun t11 w =>
 o pr E w (sStore 162 t4 t11) fun _ w =>
 rs pr w t4 162 fun v0_0 =>
 K v0_0 w)
  (o pr E w (sBuild 162 [(0, a0), (1, a1)]) fun t14 w =>
 o pr E w (sStore 162 t4 t14) fun _ w =>
 rs pr w t4 162 fun v0_1 =>
 K v0_1 w))
def lv_domain_fit : Lives := [(1, [0, 1, 4]), (2, [0, 1, 4, 10]), (3, [0, 1, 4])]
theorem sh_domain_fit_ok (a0 a1 : Value) (w : World) (R : Ending → World → Prop)
 (h : sh_domain_fit (fun v w => R (.returned v) w) (fun c w => R (.panicked c) w) a0 a1 w) : Calls pr n_domain_fit #[a0, a1] w R :=
 calls_of_W (A := lv_domain_fit) enters mixed Go.Proofs.Tryz.func262 (by kernel_rfl) (by kernel_rfl) (by kernel_rfl)
  (Eq.mp (by kernel_rfl) h)
def sh_ds_Two_1 (K : Value → World → Prop) (E : PanicK) (a0 a1 a2 a3 : Value) (w : World) : Prop :=
 o pr E w (sBin .leq 3 a0 a1 3) fun t8 w =>
 condP t8 ((fun w =>
 oa pr w (sLoad 22 a2) fun t9 =>
 oz pr (sFA 162 a3 0) fun t10 =>
 oa pr w (sLoad 3 t10) fun t11 =>
 oz pr (sBin .quo 3 t11 a0 3) fun t13 =>
 oz pr (sFA 162 a3 0) fun t14 =>
 oa pr w (sLoad 3 t14) fun t15 =>
 oz pr (sBin .quo 3 t15 a1 3) fun t17 =>
 oz pr (sFA 162 a3 1) fun t18 =>
 oa pr w (sLoad 3 t18) fun t19 =>
 oz pr (sBin .quo 3 t19 a0 3) fun t21 =>
 oz pr (sFA 162 a3 1) fun t22 =>
 oa pr w (sLoad 3 t22) fun t23 =>
 oz pr (sBin .quo 3 t23 a1 3) fun t25 =>
 o pr E w (sBuildSlice 22 4 [(0, t13), (1, t17), (2, t21), (3, t25)]) fun t26 w =>
 rk pr w (sLoad 22 a2) t9 ∧
 o pr E w (sB .append [22, 22] 22 [t9, t26]) fun t27 w =>
 o pr E w (sStore 22 a2 t27) fun _ w =>
 K (.tuple #[]) w) (dr w))
  (K (.tuple #[]) w)
def lv_ds_Two_1 : Lives := [(1, [0, 1, 2, 3, 8])]
theorem sh_ds_Two_1_ok (a0 a1 a2 a3 : Value) (w : World) (R : Ending → World → Prop)
 (h : sh_ds_Two_1 (fun v w => R (.returned v) w) (fun c w => R (.panicked c) w) a0 a1 a2 a3 w) : Calls pr n_ds_Two_1 #[a0, a1, a2, a3] w R :=
 calls_of_W (A := lv_ds_Two_1) enters mixed Go.Proofs.Tryz.func263 (by kernel_rfl) (by kernel_rfl) (by kernel_rfl)
  (Eq.mp (by kernel_rfl) h)
end Go.Inv
namespace Go.Inv
open Go.Sh
theorem get_alloc (w : World) (x : Obj) (i : Nat) : (w.alloc x).heap[i]? = if i = w.heap.size then some x else w.heap[i]? := by
 split
 ·rename_i h; subst h; exact heap_alloc_self x
 ·rename_i h; exact heap_alloc_ne h
theorem get_put (w : World) (b i : Nat) (v : Value) (c : Nat) : (put w b i v).heap[c]? = if c = b then (w.heap[b]?).map (setObj' i v) else w.heap[c]? := by
 split
 ·rename_i h; subst h; exact heap_put_self _ _
 ·rename_i h; exact heap_put_ne h
theorem rs_aggE {t n b i : Nat} {w : World} {K : Value → Prop} (h : aggT pr t = some n) : rs pr w (pt b i) t K = okOf (blkRow (w.heap[b]?) i n) K (rs pr w (pt b i) t K) := by
 cases hv : blkRow (w.heap[b]?) i n with
 | none => rfl
 | some v =>
   refine propext ⟨fun x => ?_, fun x => rs_agg h hv x⟩
   obtain ⟨u, h1, h2⟩ := x.h
   obtain ⟨u', h3, h4⟩ := (rs_agg (K := fun u => u = v) h hv rfl).h
   rw [h1] at h3
   cases h3
   rw [← h4]; exact h2
def rsX (P : Program) (w : World) (a : Value) (t : TypeId) (K : Value → Prop) : Prop := rs P w a t K
theorem rRs {t n : Nat} (h : aggT pr t = some n) : ∀ w K b i, rs pr w (pt b i) t K = okOf (blkRow (w.heap[b]?) i n) K (rsX pr w (pt b i) t K) := fun _ _ _ _ => rs_aggE h
abbrev tySpan : Nat := 162
abbrev tySpans : Nat := 166
theorem al_Span (w : World) : (sAlloc tySpan).run pr w = .ok (.value (pt w.heap.size 0)) (w.alloc (.cells #[vi 0, vi 0] tySpan)) := by kernel_rfl
theorem bd_Span (a b : Int) (w : World) : (sBuild tySpan [(0, vi a), (1, vi b)]).run pr w = .ok (.value (.agg #[vi a, vi b])) w := by kernel_rfl
theorem rAlSpan : ∀ E w K, o pr E w (sAlloc tySpan) K = K (pt w.heap.size 0) (w.alloc (.cells #[vi 0, vi 0] tySpan)) := fun _ w _ => o_val (al_Span w)
theorem rBdSpan : ∀ E w K a b, o pr E w (sBuild tySpan [(0, vi a), (1, vi b)]) K = K (.agg #[vi a, vi b]) w := fun _ w _ a b => o_val (bd_Span a b w)
def RL := And.intro rAlSpan <| And.intro rBdSpan (rRs ag162)
def Lm := And.intro Nat.add_assoc <| And.intro get_alloc <| And.intro get_put <| And.intro @size_alloc <| And.intro @size_put cells_agg
theorem okRow2 (a b : Value) (t : Nat) : okRow (some (.cells #[a, b] t (0, 0))) 0 2 = true := rfl
theorem blkRow2 (a b : Value) (t : Nat) (f : Nat × Nat) : blkRow (some (.cells #[a, b] t f)) 0 2 = some (.agg #[a, b]) := rfl
theorem old_put {a b : World} {k i : Nat} {v : Value} (h : Old a b) (hk : a.heap.size ≤ k) : Old a (put b k i v) := h.put hk
def OLD := And.intro Old.refl <| And.intro @Old.alloc <| And.intro @old_put <| And.intro @Old.dr <| And.intro Nat.le_refl Nat.le_add_right
theorem eqA (n a b : Nat) : (n + a = n + b) = (a = b) := by rw [Nat.add_left_cancel_iff]
theorem eqB (n b : Nat) : (n = n + b) = (0 = b) := propext ⟨fun h => by omega, fun h => by omega⟩
theorem eqC (n b : Nat) : (n + b = n) = (b = 0) := propext ⟨fun h => by omega, fun h => by omega⟩
def Lc := And.intro map_setObj <| And.intro okRow2 <| And.intro blkRow2 <| And.intro decide_true <| And.intro isOne_int Bool.and_self
theorem run_max (a b : Int) (w : World) : (sB .max [3, 3] 3 [vi a, vi b]).run pr w = .ok (.value (vi (max a b))) w := by
 have h : (if b > a then b else a) = max a b := by rw [Int.max_def]; split <;> split <;> omega
 have hm : (Builtin.max_ #[3, 3] 3 #[vi a, vi b]).run pr w = .ok (vi (max a b)) w := by
  rw [← h]; rfl
 simp only [sB, opc, execOp]
 simp [resolve, invoke, builtin, ev, hm, Result.andThen]
theorem run_min (a b : Int) (w : World) : (sB .min [3, 3] 3 [vi a, vi b]).run pr w = .ok (.value (vi (min a b))) w := by
 have h : (if b < a then b else a) = min a b := by rw [Int.min_def]; split <;> split <;> omega
 have hm : (Builtin.min_ #[3, 3] 3 #[vi a, vi b]).run pr w = .ok (vi (min a b)) w := by
  rw [← h]; rfl
 simp only [sB, opc, execOp]
 simp [resolve, invoke, builtin, ev, hm, Result.andThen]
def Ret (v : Value) (w : World) : Ending → World → Prop := fun e w' => e = .returned v ∧ Old w w'
abbrev spV (x : Span) : Value := .agg #[vi x.lo, vi x.hi]
theorem only_ok (sv : Value) (n : Int) (w : World) : Calls pr n_ds_Only #[sv, vi n] w (Ret (spV ⟨n, n⟩) w) := by
 refine sh_ds_Only_ok _ _ _ _ ?_
 unfold sh_ds_Only
 simp only [↓RL, ↓RT5, ↓RT, ↓RG, RV, Lm, Lc, eqA, eqB, eqC, Nat.reduceAdd, Nat.reduceEqDiff, ↓reduceIte, putL, List.all_cons, List.all_nil]
 exact ⟨rfl, by simp (maxDischargeDepth := 60) only [OLD, size_alloc, size_put]⟩
theorem whole_ok (sv : Value) (w : World) : Calls pr n_ds_Whole #[sv] w (Ret (spV ⟨-32768, 32767⟩) w) := by
 refine sh_ds_Whole_ok _ _ _ ?_
 unfold sh_ds_Whole
 simp only [↓RL, ↓RT5, ↓RT, ↓RG, RV, Lm, Lc, eqA, eqB, eqC, Nat.reduceAdd, Nat.reduceEqDiff, ↓reduceIte, putL, List.all_cons, List.all_nil]
 exact ⟨rfl, by simp (maxDischargeDepth := 60) only [OLD, size_alloc, size_put]⟩
theorem fit_ok (a b : Int) (w : World) : Calls pr n_domain_fit #[vi a, vi b] w (Ret (spV (fitV a b)) w) := by
 refine sh_domain_fit_ok _ _ _ _ ?_
 unfold sh_domain_fit
 have yes : a < -32768 ∨ b > 32767 → fitV a b = ⟨-32768, 32767⟩ := fun h => by unfold fitV; rw [if_pos h]
 have no : ¬ (a < -32768 ∨ b > 32767) → fitV a b = ⟨a, b⟩ := fun h => by unfold fitV; rw [if_neg h]
 by_cases h1 : a < -32768
 ·have d1 : decide (a < -32768) = true := by simpa using h1
  rw [yes (.inl h1)]
  simp only [↓RL, ↓RT5, ↓RT, ↓RG, RV, Lm, Lc, eqA, eqB, eqC, Nat.reduceAdd, Nat.reduceEqDiff, ↓reduceIte, putL, List.all_cons, List.all_nil, d1, cond_true]
  exact ⟨rfl, by simp (maxDischargeDepth := 60) only [OLD, size_alloc, size_put]⟩
 ·have d1 : decide (a < -32768) = false := by simpa using h1
  by_cases h2 : b > 32767
  ·have d2 : decide (b > 32767) = true := by simpa using h2
   rw [yes (.inr h2)]
   simp only [↓RL, ↓RT5, ↓RT, ↓RG, RV, Lm, Lc, eqA, eqB, eqC, Nat.reduceAdd, Nat.reduceEqDiff, ↓reduceIte, putL, List.all_cons, List.all_nil, d1, d2, cond_false]
   exact ⟨rfl, by simp (maxDischargeDepth := 60) only [OLD, size_alloc, size_put]⟩
  ·have d2 : decide (b > 32767) = false := by simpa using h2
   rw [no (by omega)]
   simp only [↓RL, ↓RT5, ↓RT, ↓RG, RV, Lm, Lc, eqA, eqB, eqC, Nat.reduceAdd, Nat.reduceEqDiff, ↓reduceIte, putL, List.all_cons, List.all_nil, d1, d2, cond_false]
   exact ⟨rfl, by simp (maxDischargeDepth := 60) only [OLD, size_alloc, size_put]⟩
end Go.Inv
namespace Go.Inv
open Go.Sh
theorem rMax : ∀ E w K a b, o pr E w (sB .max [3, 3] 3 [vi a, vi b]) K = K (vi (max a b)) w := fun _ w _ a b => o_val (run_max a b w)
theorem rMin : ∀ E w K a b, o pr E w (sB .min [3, 3] 3 [vi a, vi b]) K = K (vi (min a b)) w := fun _ w _ a b => o_val (run_min a b w)
theorem bs_3i (a b c : Int) (w : World) : (sBuildSlice 22 3 [(0, vi a), (1, vi b), (2, vi c)]).run pr w = .ok (.value (.slice (some ⟨w.heap.size, 0, none⟩) 3 3)) (w.alloc (.cells #[vi a, vi b, vi c] 3)) := by kernel_rfl
theorem bs_4i (a b c d : Int) (w : World) : (sBuildSlice 22 4 [(0, vi a), (1, vi b), (2, vi c), (3, vi d)]).run pr w = .ok (.value (.slice (some ⟨w.heap.size, 0, none⟩) 4 4)) (w.alloc (.cells #[vi a, vi b, vi c, vi d] 3)) := by kernel_rfl
theorem rBs3 : ∀ E w K a b c, o pr E w (sBuildSlice 22 3 [(0, vi a), (1, vi b), (2, vi c)]) K = K (.slice (some ⟨w.heap.size, 0, none⟩) 3 3) (w.alloc (.cells #[vi a, vi b, vi c] 3)) := fun _ w _ a b c => o_val (bs_3i a b c w)
theorem rBs4 : ∀ E w K a b c d, o pr E w (sBuildSlice 22 4 [(0, vi a), (1, vi b), (2, vi c), (3, vi d)]) K = K (.slice (some ⟨w.heap.size, 0, none⟩) 4 4) (w.alloc (.cells #[vi a, vi b, vi c, vi d] 3)) := fun _ w _ a b c d => o_val (bs_4i a b c d w)
def RM := And.intro rMax <| And.intro rMin <| And.intro rBs3 rBs4
def hullF (s : Span) (n : Int) : Span := ⟨min s.lo n, max s.hi n⟩
theorem foldl_step {α β : Type} {f : β → α → β} {b : β} {l : List α} {i : Nat} {x : α} (h : l[i]? = some x) : (l.take (i + 1)).foldl f b = f ((l.take i).foldl f b) x := by
 rw [List.take_add_one, h]; simp
theorem IntsAt.cell {w : World} {v : Value} {l : List Int} (h : IntsAt w v l) {i : Nat} {x : Int} (hx : l[i]? = some x) : ∃ b off c, v = .slice (some ⟨b, off, none⟩) l.length c ∧ blkCell (w.heap[b]?) (off + i) = some (vi x) := by
 rcases h with ⟨rfl, _⟩ | ⟨b, off, c, cs, t, f, h1, h2, h3⟩
 ·simp at hx
 ·exact ⟨b, off, c, h1, by rw [h2]; exact h3 i x hx⟩
theorem hull_ok {l : List Int} {v : Value} (f : Int) {w : World} (hv : IntsAt w v l) (hlen : l.length ≤ 1000000) : Calls pr n_domain_hull #[vi f, v] w (Ret (spV (hullV f l)) w) := by
 refine sh_domain_hull_ok _ _ _ _ ?_
 unfold sh_domain_hull
 obtain ⟨sa, sc, hve⟩ := hv.len
 rw [hve]
 simp only [↓RL, ↓RT5, ↓RT, ↓RG, RV, Lm, Lc, eqA, eqB, eqC, Nat.reduceAdd, Nat.reduceEqDiff, ↓reduceIte, putL, List.all_cons, List.all_nil]
 rw [← hve]
 generalize hw1 : put (put ((w.alloc (.cells #[vi 0, vi 0] tySpan)).alloc (.cells #[vi 0, vi 0] tySpan)) (w.heap.size + 1) 0 (vi f)) (w.heap.size + 1) 1 (vi f) = w1
 have ho1 : Old w w1 := by rw [← hw1]; simp (maxDischargeDepth := 60) only [OLD, size_alloc, size_put]
 have hb4 : w1.heap[w.heap.size]? = some (.cells #[vi 0, vi 0] tySpan (0, 0)) := by
  rw [← hw1]; simp only [RV, Lm, Lc, eqA, eqB, eqC, Nat.reduceAdd, Nat.reduceEqDiff, ↓reduceIte]
 have hb5 : w1.heap[w.heap.size + 1]? = some (.cells #[vi f, vi f] tySpan (0, 0)) := by
  rw [← hw1]; simp only [RV, Lm, Lc, eqA, eqB, eqC, Nat.reduceAdd, Nat.reduceEqDiff, ↓reduceIte]
 clear hw1
 refine ⟨fun vs w' => ∃ i : Nat, vs = [vi i] ∧ i ≤ l.length ∧ Old w w' ∧ w'.heap[w.heap.size]? = some (.cells #[vi 0, vi 0] tySpan (0, 0)) ∧ w'.heap[w.heap.size + 1]? = some (.cells #[vi ((l.take i).foldl hullF ⟨f, f⟩).lo, vi ((l.take i).foldl hullF ⟨f, f⟩).hi] tySpan (0, 0)),
  fun vs _ => l.length - intAt vs, ⟨0, rfl, Nat.zero_le _, ho1, hb4, by simpa using hb5⟩, ?_⟩
 rintro e1 w2 ⟨i, he, hi, ho2, hc4, hc5⟩
 have he13 : e1 13 = vi (i : Nat) := by simpa using he
 rw [he13]
 simp only [↓RL, ↓RM, ↓RT5, ↓RT, ↓RG, RV]
 refine condP_split (fun hlt => ?_) (fun hlt => ?_)
 ·have hlt : i < l.length := by simpa using hlt
  have hx : l[i]? = some l[i] := by simp [hlt]
  obtain ⟨b, off, c, hvb, hcell⟩ := (hv.old ho2).cell hx
  have hst := foldl_step (f := hullF) (b := ⟨f, f⟩) hx
  have hwi : IntKind.i64.wrap ((i : Int) + 1) = ((i + 1 : Nat) : Int) := by rw [wrap64 (by omega) (by omega)]; omega
  rw [hvb]
  simp only [(pur_IAs el22 (Int.natCast_nonneg i) (by omega : (i : Int) < (l.length : Nat))).o, Int.toNat_natCast, Nat.mul_one, hcell, hc5, ↓RL, ↓RM, ↓RT5, ↓RT, ↓RG, RV, Nat.reduceLT, decide_true, hwi]
  refine ⟨⟨i + 1, rfl, hlt, (ho2.put (by omega)).put (by omega), ?_, ?_⟩, by simp [intAt]; omega⟩
  ·rw [heap_put_ne (by omega), heap_put_ne (by omega)]; exact hc4
  ·rw [hst]; rfl
 ·have hil : i = l.length := by have : ¬ i < l.length := by simpa using hlt
                                omega
  subst hil
  rw [List.take_length] at hc5
  simp only [↓RL, ↓RM, ↓RT5, ↓RT, ↓RG, RV, hc4, hc5, Lm, Lc, eqA, eqB, eqC, Nat.reduceAdd, Nat.reduceEqDiff, ↓reduceIte, putL, List.all_cons, List.all_nil]
  refine ⟨rfl, ?_⟩
  exact (ho2.put (Nat.le_refl _)).put (Nat.le_refl _)
theorem wr {n : Int} (h : -9223372036854775808 ≤ n) (h2 : n ≤ 9223372036854775807) : IntKind.i64.wrap n = n := wrap64 h h2
abbrev tup2 (v : Value) (b : Bool) : Value := .tuple #[v, .bool b]
theorem iminus_ok (sv : Value) {x : Span} (hx : InvSp x) (w : World) : Calls pr n_ds_Minus #[sv, spV x] w (Ret (spV (fitV (-x.hi) (-x.lo))) w) := by
 refine sh_ds_Minus_ok _ _ _ _ ?_
 unfold sh_ds_Minus
 obtain ⟨h1, h2, h3⟩ := hx
 have e1 : IntKind.i64.wrap (0 - x.hi) = -x.hi := by rw [wr (by omega) (by omega)]; omega
 have e2 : IntKind.i64.wrap (0 - x.lo) = -x.lo := by rw [wr (by omega) (by omega)]; omega
 simp only [↓RL, ↓RM, ↓RT5, ↓RT, ↓RG, RV, Lm, Lc, eqA, eqB, eqC, Nat.reduceAdd, Nat.reduceEqDiff, ↓reduceIte, putL, List.all_cons, List.all_nil, e1, e2]
 refine cl_of (fit_ok _ _ _) ?_
 rintro e w2 ⟨rfl, ho2⟩
 have hb : w2.heap[w.heap.size + 2]? = some (.cells #[vi 0, vi 0] tySpan (0, 0)) := by
  refine ho2.heap ?_
  simp only [RV, Lm, Lc, eqA, eqB, eqC, Nat.reduceAdd, Nat.reduceEqDiff, ↓reduceIte]
 have ho : Old w w2 := by
  refine Old.trans ?_ ho2
  simp (maxDischargeDepth := 60) only [OLD, size_alloc, size_put]
 simp only [endK, ↓RL, ↓RM, ↓RT5, ↓RT, ↓RG, RV, hb, Lm, Lc, eqA, eqB, eqC, Nat.reduceAdd, Nat.reduceEqDiff, ↓reduceIte, putL, List.all_cons, List.all_nil]
 exact ⟨rfl, (ho.put (by omega)).put (by omega)⟩
theorem izero_ok (sv : Value) (x : Span) (w : World) : Calls pr n_ds_Zero #[sv, spV x] w (Ret (.bool (decide (x.lo ≤ 0) && decide (0 ≤ x.hi))) w) := by
 refine sh_ds_Zero_ok _ _ _ _ ?_
 unfold sh_ds_Zero
 simp only [↓RL, ↓RM, ↓RT5, ↓RT, ↓RG, RV, Lm, Lc, eqA, eqB, eqC, Nat.reduceAdd, Nat.reduceEqDiff, ↓reduceIte, putL, List.all_cons, List.all_nil]
 cases h : decide (x.lo ≤ 0)
 ·simp only [↓RG, RV, cond_false]
  exact ⟨rfl, by simp (maxDischargeDepth := 60) only [OLD, size_alloc, size_put]⟩
 ·simp only [↓RG, RV, cond_true]
  exact ⟨rfl, by simp (maxDischargeDepth := 60) only [OLD, size_alloc, size_put]⟩
theorem ijoin_ok (sv : Value) (x y : Span) (w : World) : Calls pr n_ds_Join #[sv, spV x, spV y] w (Ret (spV (hullV x.lo [x.hi, y.lo, y.hi])) w) := by
 refine sh_ds_Join_ok _ _ _ _ _ ?_
 unfold sh_ds_Join
 simp only [↓RL, ↓RM, ↓RT5, ↓RT, ↓RG, RV, Lm, Lc, eqA, eqB, eqC, Nat.reduceAdd, Nat.reduceEqDiff, ↓reduceIte, putL, List.all_cons, List.all_nil]
 refine cl_of (hull_ok (l := [x.hi, y.lo, y.hi]) _ (.inr ⟨_, 0, 3, _, _, _, rfl, by simp only [RV, Lm, Lc, eqA, eqB, eqC, Nat.reduceAdd, Nat.reduceEqDiff, ↓reduceIte]; rfl, ?_⟩) (by simp)) ?_
 ·intro j z hj
  match j with
  | 0 => simp at hj; subst hj; rfl
  | 1 => simp at hj; subst hj; rfl
  | 2 => simp at hj; subst hj; rfl
  | n + 3 => simp at hj
 rintro e w2 ⟨rfl, ho2⟩
 have hb : w2.heap[w.heap.size + 3]? = some (.cells #[vi 0, vi 0] tySpan (0, 0)) := by
  refine ho2.heap ?_
  simp only [RV, Lm, Lc, eqA, eqB, eqC, Nat.reduceAdd, Nat.reduceEqDiff, ↓reduceIte]
 have ho : Old w w2 := by
  refine Old.trans ?_ ho2
  simp (maxDischargeDepth := 60) only [OLD, size_alloc, size_put]
 simp only [endK, ↓RL, ↓RM, ↓RT5, ↓RT, ↓RG, RV, hb, Lm, Lc, eqA, eqB, eqC, Nat.reduceAdd, Nat.reduceEqDiff, ↓reduceIte, putL, List.all_cons, List.all_nil]
 exact ⟨rfl, (ho.put (by omega)).put (by omega)⟩
theorem imeet_ok (sv : Value) (x y : Span) (w : World) : Calls pr n_ds_Meet #[sv, spV x, spV y] w (Ret (tup2 (spV (meetV x y).1) (meetV x y).2) w) := by
 refine sh_ds_Meet_ok _ _ _ _ _ ?_
 unfold sh_ds_Meet
 simp only [↓RL, ↓RM, ↓RT5, ↓RT, ↓RG, RV, Lm, Lc, eqA, eqB, eqC, Nat.reduceAdd, Nat.reduceEqDiff, ↓reduceIte, putL, List.all_cons, List.all_nil]
 exact ⟨rfl, by simp (maxDischargeDepth := 60) only [OLD, size_alloc, size_put, size_dr]⟩
theorem bd_Val (a b : Int) (w : World) : (sBuild 100 [(0, vi a), (1, vi b)]).run pr w = .ok (.value (.agg #[vi a, vi b])) w := by kernel_rfl
theorem al_Val (w : World) : (sAlloc 100).run pr w = .ok (.value (pt w.heap.size 0)) (w.alloc (.cells #[vi 0, vi 0] 100)) := by kernel_rfl
theorem rAlVal : ∀ E w K, o pr E w (sAlloc 100) K = K (pt w.heap.size 0) (w.alloc (.cells #[vi 0, vi 0] 100)) := fun _ w _ => o_val (al_Val w)
theorem rBdVal : ∀ E w K a b, o pr E w (sBuild 100 [(0, vi a), (1, vi b)]) K = K (.agg #[vi a, vi b]) w := fun _ w _ a b => o_val (bd_Val a b w)
def RVal := And.intro rAlVal <| And.intro rBdVal (rRs ag100)
theorem itell_ok (sv : Value) (x : Span) (w : World) : Calls pr n_ds_Tell #[sv, spV x] w (Ret (spV x) w) := by
 refine sh_ds_Tell_ok _ _ _ _ ?_
 unfold sh_ds_Tell
 simp only [↓RVal, ↓RL, ↓RM, ↓RT5, ↓RT, ↓RG, RV, Lm, Lc, eqA, eqB, eqC, Nat.reduceAdd, Nat.reduceEqDiff, ↓reduceIte, putL, List.all_cons, List.all_nil]
 exact ⟨rfl, by simp (maxDischargeDepth := 60) only [OLD, size_alloc, size_put]⟩
def NarJ (w0 : World) (bi bn br : Nat) (x n : Span) (vs : List Value) (w : World) : Prop := vs = [pt bi 0, pt bn 0, pt br 0] ∧ Old w0 w ∧ w0.heap.size ≤ bi ∧ w0.heap.size ≤ br ∧ bi ≠ bn ∧ bi ≠ br ∧ w.heap[bi]? = some (.cells #[vi x.lo, vi x.hi] tySpan (0, 0)) ∧
 w.heap[bn]? = some (.cells #[vi n.lo, vi n.hi] tySpan (0, 0)) ∧ w.heap[br]? = some (.cells #[vi 0, vi 0] tySpan (0, 0))
def NarK (w0 : World) (bi br : Nat) (x : Span) (_ : List Value) (w : World) : Prop := Old w0 w ∧ w0.heap.size ≤ br ∧ w.heap[bi]? = some (.cells #[vi x.lo, vi x.hi] tySpan (0, 0)) ∧ w.heap[br]? = some (.cells #[vi 0, vi 0] tySpan (0, 0))
theorem inarrow_ok (sv : Value) (x n : Span) (w : World) : Calls pr n_ds_Narrow #[sv, spV x, spV n] w (Ret (spV (narrowV x n)) w) := by
 refine sh_ds_Narrow_ok _ _ _ _ _ ?_
 unfold sh_ds_Narrow
 refine ⟨NarJ w (w.heap.size + 1) (w.heap.size + 2) (w.heap.size + 3) ⟨if x.lo = -32768 then n.lo else x.lo, x.hi⟩ n, ?_, ?_⟩
 ·rintro e1 w1 ⟨he, ho, h1, h2, h3, h4, hb1, hb2, hb3⟩
  obtain ⟨e4, e5, e6⟩ : e1 4 = pt (w.heap.size + 1) 0 ∧ e1 5 = pt (w.heap.size + 2) 0 ∧ e1 6 = pt (w.heap.size + 3) 0 := by simpa using he
  rw [e4, e5, e6]
  refine ⟨NarK w (w.heap.size + 1) (w.heap.size + 3) (narrowV x n), ?_, ?_⟩
  ·rintro e2 w2 ⟨ho2, g2, hc1, hc3⟩
   simp only [↓RL, ↓RM, ↓RT5, ↓RT, ↓RG, RV, hc1, hc3, Lc, ↓reduceIte, putL, List.all_cons, List.all_nil]
   exact ⟨rfl, (ho2.put g2).put g2⟩
  ·simp only [↓RL, ↓RM, ↓RT5, ↓RT, ↓RG, RV, hb1, hb2, hb3]
   by_cases hh : x.hi = 32767
   ·have d : (x.hi == 32767) = true := by simpa using hh
    simp only [d, ↓RL, ↓RM, ↓RT5, ↓RT, ↓RG, RV, hb1, hb2, Nat.reduceLT, decide_true]
    refine ⟨ho.put h1, h2, ?_, by rw [heap_put_ne (by omega)]; exact hb3⟩
    rw [heap_put_self, hb1]
    simp only [narrowV, hh, if_true]; rfl
   ·have d : (x.hi == 32767) = false := by simpa using hh
    simp only [d, ↓RL, ↓RM, ↓RT5, ↓RT, ↓RG, RV]
    refine ⟨ho, h2, ?_, hb3⟩
    rw [hb1]
    simp only [narrowV, hh, if_false]
 ·simp only [↓RL, ↓RM, ↓RT5, ↓RT, ↓RG, RV, Lm, Lc, eqA, eqB, eqC, Nat.reduceAdd, Nat.reduceEqDiff, ↓reduceIte]
  by_cases hh : x.lo = -32768
  ·have d : (x.lo == -32768) = true := by simpa using hh
   simp only [d, ↓RL, ↓RM, ↓RT5, ↓RT, ↓RG, RV, Lm, Lc, eqA, eqB, eqC, Nat.reduceAdd, Nat.reduceEqDiff, ↓reduceIte, Nat.reduceLT]
   refine ⟨rfl, ?_, by omega, by omega, by omega, by omega, ?_, ?_, ?_⟩
   ·simp (maxDischargeDepth := 60) only [OLD, size_alloc, size_put]
   ·simp only [RV, Lm, Lc, eqA, eqB, eqC, Nat.reduceAdd, Nat.reduceEqDiff, ↓reduceIte, hh]
   ·simp only [RV, Lm, Lc, eqA, eqB, eqC, Nat.reduceAdd, Nat.reduceEqDiff, ↓reduceIte]
   ·simp only [RV, Lm, Lc, eqA, eqB, eqC, Nat.reduceAdd, Nat.reduceEqDiff, ↓reduceIte]
  ·have d : (x.lo == -32768) = false := by simpa using hh
   simp only [d, ↓RL, ↓RM, ↓RT5, ↓RT, ↓RG, RV, Lm, Lc, eqA, eqB, eqC, Nat.reduceAdd, Nat.reduceEqDiff, ↓reduceIte]
   refine ⟨rfl, ?_, by omega, by omega, by omega, by omega, ?_, ?_, ?_⟩
   ·simp (maxDischargeDepth := 60) only [OLD, size_alloc, size_put]
   ·simp only [RV, Lm, Lc, eqA, eqB, eqC, Nat.reduceAdd, Nat.reduceEqDiff, ↓reduceIte, hh]
   ·simp only [RV, Lm, Lc, eqA, eqB, eqC, Nat.reduceAdd, Nat.reduceEqDiff, ↓reduceIte]
   ·simp only [RV, Lm, Lc, eqA, eqB, eqC, Nat.reduceAdd, Nat.reduceEqDiff, ↓reduceIte]
end Go.Inv
namespace Go.Inv
open Go.Sh
def SmallSp (x : Span) : Prop := -40000 ≤ x.lo ∧ x.lo ≤ 40000 ∧ -40000 ≤ x.hi ∧ x.hi ≤ 40000
theorem InvSp.small {x : Span} (h : InvSp x) : SmallSp x := by obtain ⟨h1, h2, h3⟩ := h; exact ⟨by omega, by omega, by omega, by omega⟩
structure WoAt (w0 w : World) (x y z : Span) : Prop where
 old : Old w0 w
 x : w.heap[w0.heap.size]? = some (.cells #[vi x.lo, vi x.hi] tySpan (0, 0))
 y : w.heap[w0.heap.size + 1]? = some (.cells #[vi y.lo, vi y.hi] tySpan (0, 0))
 r : w.heap[w0.heap.size + 2]? = some (.cells #[vi 0, vi 0] tySpan (0, 0))
 z : w.heap[w0.heap.size + 3]? = some (.cells #[vi z.lo, vi z.hi] tySpan (0, 0))
theorem without_ok {x y : Span} (hx : SmallSp x) (w : World) : Calls pr n_domain_without #[spV x, spV y] w (Ret (spV (withoutV x y)) w) := by
 refine sh_domain_without_ok _ _ _ _ ?_
 unfold sh_domain_without
 obtain ⟨h1, h2, h3, h4⟩ := hx
 have e1 : IntKind.i64.wrap (x.lo + 1) = x.lo + 1 := wr (by omega) (by omega)
 have e2 : IntKind.i64.wrap (x.hi - 1) = x.hi - 1 := wr (by omega) (by omega)
 simp only [↓RL, ↓RM, ↓RT5, ↓RT, ↓RG, RV, Lm, Lc, eqA, eqB, eqC, Nat.reduceAdd, Nat.reduceEqDiff, ↓reduceIte, putL, List.all_cons, List.all_nil]
 generalize hw1 : put (put ((((w.alloc (.cells #[vi x.lo, vi x.hi] 162)).alloc (.cells #[vi y.lo, vi y.hi] 162)).alloc (.cells #[vi 0, vi 0] tySpan)).alloc (.cells #[vi 0, vi 0] tySpan)) (w.heap.size + 3) 0 (vi (-32768))) (w.heap.size + 3) 1 (vi 32767) = w1
 have W1 : WoAt w w1 x y ⟨-32768, 32767⟩ := by
  rw [← hw1]
  refine ⟨?_, ?_, ?_, ?_, ?_⟩
  ·simp (maxDischargeDepth := 60) only [OLD, size_alloc, size_put]
  all_goals simp only [RV, Lm, Lc, eqA, eqB, eqC, Nat.reduceAdd, Nat.reduceEqDiff, ↓reduceIte]
 clear hw1
 refine ⟨fun _ w' => y.lo = y.hi ∧ WoAt w w' x y ⟨if x.lo = y.lo then x.lo + 1 else -32768, 32767⟩, ?_, ?_⟩
 ·rintro e1' w2 ⟨hy, W2⟩
  refine ⟨fun _ w' => WoAt w w' x y (withoutV x y), ?_, ?_⟩
  ·rintro e2' w3 W3
   simp only [↓RL, ↓RM, ↓RT5, ↓RT, ↓RG, RV, W3.r, W3.z, Lm, Lc, eqA, eqB, eqC, Nat.reduceAdd, Nat.reduceEqDiff, ↓reduceIte, putL, List.all_cons, List.all_nil]
   exact ⟨rfl, (W3.old.put (by omega)).put (by omega)⟩
  ·simp only [↓RL, ↓RM, ↓RT5, ↓RT, ↓RG, RV, W2.x, W2.y]
   have hwo : withoutV x y = ⟨if x.lo = y.lo then x.lo + 1 else -32768, if x.hi = y.lo then x.hi - 1 else 32767⟩ := by unfold withoutV; rw [if_neg (by simpa using hy)]
   by_cases hh : x.hi = y.lo
   ·have d : (x.hi == y.lo) = true := by simpa using hh
    simp only [d, ↓RL, ↓RM, ↓RT5, ↓RT, ↓RG, RV, W2.x, e2, W2.z, Nat.reduceLT, decide_true]
    refine ⟨W2.old.put (by omega), ?_, ?_, ?_, ?_⟩
    ·rw [heap_put_ne (by omega)]; exact W2.x
    ·rw [heap_put_ne (by omega)]; exact W2.y
    ·rw [heap_put_ne (by omega)]; exact W2.r
    ·rw [heap_put_self, W2.z, hwo, if_pos hh]; rfl
   ·have d : (x.hi == y.lo) = false := by simpa using hh
    simp only [d, ↓RL, ↓RM, ↓RT5, ↓RT, ↓RG, RV]
    exact ⟨W2.old, W2.x, W2.y, W2.r, by rw [hwo, if_neg hh]; exact W2.z⟩
 ·simp only [↓RL, ↓RM, ↓RT5, ↓RT, ↓RG, RV, W1.x, W1.y]
  by_cases hy : y.lo = y.hi
  ·have d : (y.lo != y.hi) = false := by simpa using hy
   simp only [d, ↓RL, ↓RM, ↓RT5, ↓RT, ↓RG, RV, W1.x, W1.y]
   by_cases hh : x.lo = y.lo
   ·have d : (x.lo == y.lo) = true := by simpa using hh
    simp only [d, ↓RL, ↓RM, ↓RT5, ↓RT, ↓RG, RV, W1.x, e1, W1.z, Nat.reduceLT, decide_true]
    refine ⟨hy, W1.old.put (by omega), ?_, ?_, ?_, ?_⟩
    ·rw [heap_put_ne (by omega)]; exact W1.x
    ·rw [heap_put_ne (by omega)]; exact W1.y
    ·rw [heap_put_ne (by omega)]; exact W1.r
    ·rw [heap_put_self, W1.z, if_pos hh]; rfl
   ·have d : (x.lo == y.lo) = false := by simpa using hh
    simp only [d, ↓RL, ↓RM, ↓RT5, ↓RT, ↓RG, RV]
    exact ⟨hy, W1.old, W1.x, W1.y, W1.r, by rw [if_neg hh]; exact W1.z⟩
  ·have d : (y.lo != y.hi) = true := by simpa using hy
   have hwo : withoutV x y = ⟨-32768, 32767⟩ := by unfold withoutV; rw [if_pos hy]
   rw [hwo]
   simp only [d, ↓RL, ↓RM, ↓RT5, ↓RT, ↓RG, RV, W1.r, W1.z, Lm, Lc, eqA, eqB, eqC, Nat.reduceAdd, Nat.reduceEqDiff, ↓reduceIte, putL, List.all_cons, List.all_nil]
   exact ⟨rfl, (W1.old.put (by omega)).put (by omega)⟩
theorem o_spanVar {E : PanicK} {K : Value → World → Prop} {x : Span} {w : World} (hK : ∀ w', Old w w' → w'.heap[w.heap.size]? = some (.cells #[vi x.lo, vi x.hi] tySpan (0, 0)) → K (pt w.heap.size 0) w') :
 o pr E w (sAlloc 162) fun t w => o pr E w (sStore 162 t (spV x)) fun _ w => K t w := by
 simp only [↓RL, ↓RM, ↓RT5, ↓RT, ↓RG, RV, Lm, Lc, eqA, eqB, eqC, Nat.reduceAdd, Nat.reduceEqDiff, ↓reduceIte, putL, List.all_cons, List.all_nil]
 refine hK _ ?_ ?_
 ·simp (maxDischargeDepth := 60) only [OLD, size_alloc, size_put]
 ·simp only [RV, Lm, Lc, eqA, eqB, eqC, Nat.reduceAdd, Nat.reduceEqDiff, ↓reduceIte]
theorem o_spanSt {E : PanicK} {K : Value → World → Prop} {x : Span} {w : World} (hK : ∀ w', Old w w' → w'.heap[w.heap.size]? = some (.cells #[vi x.lo, vi x.hi] tySpan (0, 0)) → K undef w') :
 o pr E (w.alloc (.cells #[vi 0, vi 0] tySpan)) (sStore 162 (pt w.heap.size 0) (spV x)) K := by
 simp only [↓RL, ↓RM, ↓RT5, ↓RT, ↓RG, RV, Lm, Lc, eqA, eqB, eqC, Nat.reduceAdd, Nat.reduceEqDiff, ↓reduceIte, putL, List.all_cons, List.all_nil]
 refine hK _ ?_ ?_
 ·simp (maxDischargeDepth := 60) only [OLD, size_alloc, size_put]
 ·simp only [RV, Lm, Lc, eqA, eqB, eqC, Nat.reduceAdd, Nat.reduceEqDiff, ↓reduceIte]
theorem bd_Spans0 (w : World) : (sBuild tySpans []).run pr w = .ok (.value (.agg #[.slice none 0 0])) w := by kernel_rfl
structure BoAt (w0 w : World) (l r a b : Span) : Prop where
 old : Old w0 w
 l : w.heap[w0.heap.size + 1]? = some (.cells #[vi l.lo, vi l.hi] tySpan (0, 0))
 r : w.heap[w0.heap.size + 2]? = some (.cells #[vi r.lo, vi r.hi] tySpan (0, 0))
 a : w.heap[w0.heap.size + 3]? = some (.cells #[vi a.lo, vi a.hi] tySpan (0, 0))
 b : w.heap[w0.heap.size + 4]? = some (.cells #[vi b.lo, vi b.hi] tySpan (0, 0))
theorem BoAt.putA {w0 w : World} {l r a b a' : Span} {i : Nat} {v : Value} (h : BoAt w0 w l r a b) (he : #[vi a.lo, vi a.hi].setIfInBounds i v = #[vi a'.lo, vi a'.hi]) : BoAt w0 (put w (w0.heap.size + 3) i v) l r a' b :=
 ⟨h.old.put (by omega), by rw [heap_put_ne (by omega)]; exact h.l, by rw [heap_put_ne (by omega)]; exact h.r, by rw [heap_put_self, h.a, map_setObj, he], by rw [heap_put_ne (by omega)]; exact h.b⟩
theorem BoAt.putB {w0 w : World} {l r a b b' : Span} {i : Nat} {v : Value} (h : BoAt w0 w l r a b) (he : #[vi b.lo, vi b.hi].setIfInBounds i v = #[vi b'.lo, vi b'.hi]) : BoAt w0 (put w (w0.heap.size + 4) i v) l r a b' :=
 ⟨h.old.put (by omega), by rw [heap_put_ne (by omega)]; exact h.l, by rw [heap_put_ne (by omega)]; exact h.r, by rw [heap_put_ne (by omega)]; exact h.a, by rw [heap_put_self, h.b, map_setObj, he]⟩
theorem BoAt.dr {w0 w : World} {l r a b : Span} (h : BoAt w0 w l r a b) : BoAt w0 (dr w) l r a b := ⟨h.old.dr, h.l, h.r, h.a, h.b⟩
theorem BoAt.fr {w0 w w' : World} {l r a b : Span} (h : BoAt w0 w l r a b) (ho : Old w w') : BoAt w0 w' l r a b := ⟨h.old.trans ho, ho.heap h.l, ho.heap h.r, ho.heap h.a, ho.heap h.b⟩
theorem ibounds_ok (sv : Value) {l r : Span} {k : Nat} (hk : k < 6) (hl : InvSp l) (hr : InvSp r) (w : World) :
 Calls pr n_ds_Bounds #[sv, spV l, vi k, spV r] w (Ret (.tuple #[spV (boundsV l k r).1, spV (boundsV l k r).2.1, .bool (boundsV l k r).2.2.1, .bool (boundsV l k r).2.2.2]) w) := by
 refine sh_ds_Bounds_ok _ _ _ _ _ _ ?_
 unfold sh_ds_Bounds
 obtain ⟨l1, l2, l3⟩ := id hl
 obtain ⟨r1, r2, r3⟩ := id hr
 simp only [↓RL, ↓RM, ↓RT5, ↓RT, ↓RG, RV, Lm, Lc, eqA, eqB, eqC, Nat.reduceAdd, Nat.reduceEqDiff, ↓reduceIte, putL, List.all_cons, List.all_nil]
 generalize hw0 : ((((w.alloc (.cells sv.cells 166)).alloc (.cells #[vi l.lo, vi l.hi] 162)).alloc (.cells #[vi r.lo, vi r.hi] 162)).alloc (.cells #[vi 0, vi 0] tySpan)).alloc (.cells #[vi 0, vi 0] tySpan) = w0
 have B0 : BoAt w w0 l r ⟨0, 0⟩ ⟨0, 0⟩ := by
  rw [← hw0]
  refine ⟨?_, ?_, ?_, ?_, ?_⟩
  ·simp (maxDischargeDepth := 60) only [OLD, size_alloc, size_put]
  all_goals simp only [RV, Lm, Lc, eqA, eqB, eqC, Nat.reduceAdd, Nat.reduceEqDiff, ↓reduceIte]
 clear hw0
 refine ⟨fun _ w' => BoAt w w' l r (boundV l k r).1 (boundV l k r).2, ?_, ?_⟩
 ·rintro e1 w1 B1
  simp only [o_val (bd_Spans0 _), ↓RL, ↓RM, ↓RT5, ↓RT, ↓RG, RV, B1.l, B1.a, blkRow2]
  refine cl_of (imeet_ok _ l (boundV l k r).1 w1) ?_
  rintro e w2 ⟨rfl, ho2⟩
  have B2 := B1.fr ho2
  simp only [endK, ↓RG, RV]
  first | refine o_spanVar (x := (meetV l (boundV l k r).1).1) ?_ | refine o_spanSt (x := (meetV l (boundV l k r).1).1) ?_
  intro w3 ho3 _
  have B3 := B2.fr ho3
  simp only [o_val (bd_Spans0 _), ↓RL, ↓RM, ↓RT5, ↓RT, ↓RG, RV, B3.r, B3.b, blkRow2]
  refine cl_of (imeet_ok _ r (boundV l k r).2 w3) ?_
  rintro e w4 ⟨rfl, ho4⟩
  simp only [endK, ↓RG, RV]
  first | refine o_spanVar (x := (meetV r (boundV l k r).2).1) ?_ | refine o_spanSt (x := (meetV r (boundV l k r).2).1) ?_
  intro w5 ho5 _
  have B5 := (B3.fr ho4).fr ho5
  have res : boundsV l k r = ((boundV l k r).1, (boundV l k r).2, true, (meetV l (boundV l k r).1).2 && (meetV r (boundV l k r).2).2) := rfl
  rw [res]
  have fin : ∀ w6, Old w5 w6 → w6 = putL (putL (Sh.dr w5) (w.heap.size + 3) 0 [vi (boundV l k r).1.lo, vi (boundV l k r).1.hi]) (w.heap.size + 4) 0 [vi (boundV l k r).2.lo, vi (boundV l k r).2.hi] → True := fun _ _ _ => trivial
  generalize hm : (meetV l (boundV l k r).1).2 = m1
  generalize hm2 : (meetV r (boundV l k r).2).2 = m2
  cases m1 <;> simp only [cond_true, cond_false, ↓RL, ↓RM, ↓RT5, ↓RT, ↓RG, RV, B5.a, B5.b, Lm, Lc, eqA, eqB, eqC, Nat.reduceAdd, Nat.reduceEqDiff, ↓reduceIte, putL, List.all_cons, List.all_nil]
  ·refine ⟨rfl, ?_⟩
   exact (((((B5.old.dr).put (by omega)).put (by omega)).put (by omega)).put (by omega))
  ·refine ⟨rfl, ?_⟩
   exact (((((B5.old.dr).put (by omega)).put (by omega)).put (by omega)).put (by omega))
 ·have e1 : IntKind.i64.wrap (r.hi - 1) = r.hi - 1 := wr (by omega) (by omega)
  have e2 : IntKind.i64.wrap (l.lo + 1) = l.lo + 1 := wr (by omega) (by omega)
  have e3 : IntKind.i64.wrap (r.lo + 1) = r.lo + 1 := wr (by omega) (by omega)
  have e4 : IntKind.i64.wrap (l.hi - 1) = l.hi - 1 := wr (by omega) (by omega)
  have B1 : BoAt w (Sh.put (Sh.put (Sh.put (Sh.put w0 (w.heap.size + 3) 0 (vi (-32768))) (w.heap.size + 3) 1 (vi 32767)) (w.heap.size + 4) 0 (vi (-32768))) (w.heap.size + 4) 1 (vi 32767)) l r ⟨-32768, 32767⟩ ⟨-32768, 32767⟩ :=
   (((B0.putA (a' := ⟨-32768, 0⟩) rfl).putA (a' := ⟨-32768, 32767⟩) rfl).putB (b' := ⟨-32768, 0⟩) rfl).putB (b' := ⟨-32768, 32767⟩) rfl
  match k, hk with
  | 0, _ =>
    simp only [show ((((0 : Nat) : Int)) == 0) = true from rfl, e1, e2, e3, e4, ↓RL, ↓RM, ↓RT5, ↓RT, ↓RG, RV, B0.l, B0.r, B0.a, B0.b, Lm, Lc, eqA, eqB, eqC, Nat.reduceAdd, Nat.reduceEqDiff, Nat.reduceLT, ↓reduceIte, putL, List.all_cons, List.all_nil]
    exact (B1.dr.putA (a' := ⟨-32768, r.hi - 1⟩) rfl).putB (b' := ⟨l.lo + 1, 32767⟩) rfl
  | 1, _ =>
    simp only [show ((((1 : Nat) : Int)) == 0) = false from rfl, show ((((1 : Nat) : Int)) == 2) = false from rfl, show ((((1 : Nat) : Int)) == 3) = false from rfl, show ((((1 : Nat) : Int)) == 1) = true from rfl, e1, e2, e3, e4, ↓RL, ↓RM, ↓RT5, ↓RT, ↓RG, RV, B0.l, B0.r, B0.a, B0.b, Lm, Lc, eqA, eqB, eqC, Nat.reduceAdd, Nat.reduceEqDiff, Nat.reduceLT, ↓reduceIte, putL, List.all_cons, List.all_nil]
    exact (B1.dr.putA (a' := ⟨r.lo, 32767⟩) rfl).putB (b' := ⟨-32768, l.hi⟩) rfl
  | 2, _ =>
    simp only [show ((((2 : Nat) : Int)) == 0) = false from rfl, show ((((2 : Nat) : Int)) == 2) = true from rfl, e1, e2, e3, e4, ↓RL, ↓RM, ↓RT5, ↓RT, ↓RG, RV, B0.l, B0.r, B0.a, B0.b, Lm, Lc, eqA, eqB, eqC, Nat.reduceAdd, Nat.reduceEqDiff, Nat.reduceLT, ↓reduceIte, putL, List.all_cons, List.all_nil]
    exact (B1.dr.putA (a' := ⟨-32768, r.hi⟩) rfl).putB (b' := ⟨l.lo, 32767⟩) rfl
  | 3, _ =>
    simp only [show ((((3 : Nat) : Int)) == 0) = false from rfl, show ((((3 : Nat) : Int)) == 2) = false from rfl, show ((((3 : Nat) : Int)) == 3) = true from rfl, e1, e2, e3, e4, ↓RL, ↓RM, ↓RT5, ↓RT, ↓RG, RV, B0.l, B0.r, B0.a, B0.b, Lm, Lc, eqA, eqB, eqC, Nat.reduceAdd, Nat.reduceEqDiff, Nat.reduceLT, ↓reduceIte, putL, List.all_cons, List.all_nil]
    exact (B1.dr.putA (a' := ⟨r.lo + 1, 32767⟩) rfl).putB (b' := ⟨-32768, l.hi - 1⟩) rfl
  | 4, _ =>
    simp only [show ((((4 : Nat) : Int)) == 0) = false from rfl, show ((((4 : Nat) : Int)) == 2) = false from rfl, show ((((4 : Nat) : Int)) == 3) = false from rfl, show ((((4 : Nat) : Int)) == 1) = false from rfl, show ((((4 : Nat) : Int)) == 4) = true from rfl, e1, e2, e3, e4, ↓RL, ↓RM, ↓RT5, ↓RT, ↓RG, RV, B0.l, B0.r, B0.a, B0.b, Lm, Lc, eqA, eqB, eqC, Nat.reduceAdd, Nat.reduceEqDiff, Nat.reduceLT, ↓reduceIte, putL, List.all_cons, List.all_nil]
    exact (((B1.dr.putA (a' := ⟨r.lo, 32767⟩) rfl).putA (a' := r) rfl).putB (b' := ⟨l.lo, 32767⟩) rfl).putB (b' := l) rfl
  | 5, _ =>
    simp only [show ((((5 : Nat) : Int)) == 0) = false from rfl, show ((((5 : Nat) : Int)) == 2) = false from rfl, show ((((5 : Nat) : Int)) == 3) = false from rfl, show ((((5 : Nat) : Int)) == 1) = false from rfl, show ((((5 : Nat) : Int)) == 4) = false from rfl, show ((((5 : Nat) : Int)) == 5) = true from rfl, e1, e2, e3, e4, ↓RL, ↓RM, ↓RT5, ↓RT, ↓RG, RV, B0.l, B0.r, B0.a, B0.b, Lm, Lc, eqA, eqB, eqC, Nat.reduceAdd, Nat.reduceEqDiff, Nat.reduceLT, ↓reduceIte, putL, List.all_cons, List.all_nil]
    refine cl_of (without_ok hl.small _) ?_
    rintro e w2 ⟨rfl, ho2⟩
    have B2 := B1.dr.fr ho2
    simp only [endK, ↓RT5, ↓RT, ↓RG, RV, B2.l, B2.r, blkRow2]
    refine cl_of (without_ok hr.small _) ?_
    rintro e w3 ⟨rfl, ho3⟩
    have B3 := B2.fr ho3
    simp only [endK, ↓RT5, ↓RT, ↓RG, RV, B3.a, B3.b, Lm, Lc, eqA, eqB, eqC, Nat.reduceAdd, Nat.reduceEqDiff, Nat.reduceLT, ↓reduceIte, putL, List.all_cons, List.all_nil]
    exact (((B3.putA (a' := ⟨(withoutV l r).lo, 32767⟩) rfl).putA (a' := withoutV l r) rfl).putB (b' := ⟨(withoutV r l).lo, 32767⟩) rfl).putB (b' := withoutV r l) rfl
end Go.Inv
namespace Go.Inv
open Go.Sh
structure AllAt (w0 wI w : World) (ba bx : Nat) (x : Span) (l : List Int) : Prop where
 old : Old w0 w
 kp : ∀ (c : Nat) (y : Obj), wI.heap[c]? = some y → c ≠ ba → (∀ cs, y ≠ .cells cs 3 (0, 0)) → w.heap[c]? = some y
 ne : ba ≠ bx
 lo : w0.heap.size ≤ ba ∧ w0.heap.size ≤ bx
 x : w.heap[bx]? = some (.cells #[vi x.lo, vi x.hi] tySpan (0, 0))
 a : ∃ v, w.heap[ba]? = some (.cells #[v] 22 (0, 0)) ∧ w.ownsRow w0.heap.size 3 1 v l.length (l.map vi)
theorem sl22' : OneSl pr 22 3 := oneSl_of (by kernel_rfl)
theorem div_small {a b : Int} (h1 : -32768 ≤ a) (h2 : a ≤ 32767) : -32768 ≤ a.tdiv b ∧ a.tdiv b ≤ 32768 := by
 have h := Int.natAbs_tdiv_le_natAbs a b
 omega
def ByP (w0 wI : World) (ba bx : Nat) (x : Span) (l : List Int) : Ending → World → Prop := fun e w' => (∃ v, e = .returned v) ∧ AllAt w0 wI w' ba bx x l
theorem by_ok {w0 wI w : World} {ba bx : Nat} {x : Span} {l : List Int} (hx : InvSp x) (h : AllAt w0 wI w ba bx x l) (hl : l.length ≤ 1000) (lo hi : Int) (hlo : lo ≤ hi → lo ≠ 0) (hhi : lo ≤ hi → hi ≠ 0) :
 Calls pr n_ds_Two_1 #[vi lo, vi hi, pt ba 0, pt bx 0] w (ByP w0 wI ba bx x (l ++ byV x lo hi)) := by
 refine sh_ds_Two_1_ok _ _ _ _ _ _ ?_
 unfold sh_ds_Two_1
 obtain ⟨v, ha, hown⟩ := h.a
 simp only [↓RL, ↓RM, ↓RT5, ↓RT, ↓RG, RV]
 refine condP_split (fun h1 => ?_) (fun h1 => ?_)
 ·have hle : lo ≤ hi := of_decide_eq_true h1
  have z1 := hlo hle
  have z2 := hhi hle
  have q : ∀ a b : Int, b ≠ 0 → intV .quo .i64 a b = some (vi (IntKind.i64.wrap (a.tdiv b))) := fun a b hb => by simp only [intV, if_neg hb]
  have d1 := div_small (b := lo) hx.1 (Int.le_trans hx.2.1 hx.2.2)
  have d2 := div_small (b := hi) hx.1 (Int.le_trans hx.2.1 hx.2.2)
  have d3 := div_small (b := lo) (Int.le_trans hx.1 hx.2.1) hx.2.2
  have d4 := div_small (b := hi) (Int.le_trans hx.1 hx.2.1) hx.2.2
  have hB : w0.heap.size ≤ w.heap.size := h.old.size
  have hbl := lt_of_heap ha
  simp only [ha, h.x, ↓RL, ↓RM, ↓RT5, ↓RT, ↓RG, RV, q _ _ z1, q _ _ z2, wr (Int.le_trans (by decide) d1.1) (Int.le_trans d1.2 (by decide)), wr (Int.le_trans (by decide) d2.1) (Int.le_trans d2.2 (by decide)), wr (Int.le_trans (by decide) d3.1) (Int.le_trans d3.2 (by decide)), wr (Int.le_trans (by decide) d4.1) (Int.le_trans d4.2 (by decide))]
  have e1 : (((Sh.dr w).alloc (.cells #[vi (x.lo.tdiv lo), vi (x.lo.tdiv hi), vi (x.hi.tdiv lo), vi (x.hi.tdiv hi)] 3)).heap[ba]?) = some (.cells #[v] 22 (0, 0)) := by
   rw [heap_alloc_ne (by show ba ≠ w.heap.size; omega)]; exact ha
  simp only [e1, RV]
  have hown2 : ((Sh.dr w).alloc (.cells #[vi (x.lo.tdiv lo), vi (x.lo.tdiv hi), vi (x.hi.tdiv lo), vi (x.hi.tdiv hi)] 3)).ownsRow w0.heap.size 3 1 v l.length (l.map vi) := by
   refine ⟨hown.1, ?_⟩
   rcases hown.2 with h | ⟨nb, cap, c, g1, g2, g3, g4⟩
   ·exact .inl h
   ·exact .inr ⟨nb, cap, c, g1, g2, by rw [heap_alloc_ne (by have := lt_of_heap g3; show nb ≠ w.heap.size; omega)]; exact g3, g4⟩
  refine o_appendN (us := [vi (x.lo.tdiv lo), vi (x.lo.tdiv hi), vi (x.hi.tdiv lo), vi (x.hi.tdiv hi)]) sl22' hown2 (heap_alloc_self _) rfl (by simp [Value.oneCell']) (by omega) (by rw [size_alloc]; show w0.heap.size ≤ w.heap.size + 1; omega) ?_
  intro v' w2 hr hg
  have hvt : ∀ k, v.ownBlock = some k → ∃ cs, w.heap[k]? = some (.cells cs 3 (0, 0)) := fun k hk => by
   rcases hown.2 with ⟨rfl, _⟩ | ⟨nb, cap, c, rfl, h2, h3, _⟩
   ·cases hk
   ·cases hk; exact ⟨_, h3⟩
  have hvB : ∀ k, v.ownBlock = some k → w0.heap.size ≤ k := fun k hk => by
   rcases hown.2 with ⟨rfl, _⟩ | ⟨nb, cap, c, rfl, h2, h3, _⟩
   ·cases hk
   ·cases hk; exact h2
  have keep : ∀ (k : Nat) (y : Obj), w.heap[k]? = some y → (∀ cs, y ≠ .cells cs 3 (0, 0)) → w2.heap[k]? = some y := fun k y hy hne => by
   have hl := lt_of_heap hy
   rw [hg.block k (by rw [size_alloc]; show k < w.heap.size + 1; omega) (fun e => by obtain ⟨cs, h'⟩ := hvt k e.symm; rw [hy] at h'; cases h'; exact hne _ rfl), heap_alloc_ne (by show k ≠ w.heap.size; omega)]
   exact hy
  have ha2 := keep ba _ ha (fun cs e => by cases e)
  have hx2 := keep bx _ h.x (fun cs e => by cases e)
  have h1v : isOne v' = true := by rcases hr.2 with ⟨rfl, _⟩ | ⟨nb, cap, c, rfl, _⟩ <;> rfl
  have hby : byV x lo hi = [x.lo.tdiv lo, x.lo.tdiv hi, x.hi.tdiv lo, x.hi.tdiv hi] := by unfold byV; rw [if_pos hle]
  simp only [ha2, h1v, ↓RT, ↓RG, RV, Nat.reduceLT]
  refine ⟨⟨_, rfl⟩, ?_, ?_, h.ne, h.lo, ?_, v', ?_, ?_⟩
  ·have ho2 : Old w0 w2 := ⟨by have := hg.size; rw [size_alloc] at this; have : w.heap.size + 1 ≤ w2.heap.size := this; omega, fun k hk => by
    rw [hg.block k (by rw [size_alloc]; show k < w.heap.size + 1; omega) (fun e => by have := hvB k e.symm; omega), heap_alloc_ne (by show k ≠ w.heap.size; omega)]
    exact h.old.old k hk, ((h.old.out.dr).alloc _).grown hg⟩
   exact ho2.put h.lo.1
  ·intro c y hy hc hne
   rw [heap_put_ne hc]; exact keep c y (h.kp c y hy hc hne) hne
  ·rw [heap_put_ne (by have := h.ne; omega)]; exact hx2
  ·rw [heap_put_self, ha2]; rfl
  ·have hr' : w2.ownsRow w0.heap.size 3 1 v' (l ++ byV x lo hi).length ((l ++ byV x lo hi).map vi) := by
    rw [hby]; simpa using hr
   refine ⟨hr'.1, ?_⟩
   rcases hr'.2 with h | ⟨nb, cap, c, g1, g2, g3, g4⟩
   ·exact .inl h
   ·refine .inr ⟨nb, cap, c, g1, g2, ?_, g4⟩
    have : nb ≠ ba := by rintro rfl; rw [ha2] at g3; cases g3
    rw [heap_put_ne this]; exact g3
 ·have hle : ¬ lo ≤ hi := of_decide_eq_false h1
  have hby : byV x lo hi = [] := by unfold byV; rw [if_neg hle]
  rw [hby, List.append_nil]
  exact ⟨⟨_, rfl⟩, h⟩
theorem wr_mul {a b : Int} (h1 : -32768 ≤ a) (h2 : a ≤ 32768) (h3 : -32768 ≤ b) (h4 : b ≤ 32768) : IntKind.i64.wrap (a * b) = a * b := by
 have h : (a * b).natAbs ≤ 32768 * 32768 := by
  rw [Int.natAbs_mul]
  exact Nat.mul_le_mul (by omega) (by omega)
 exact wr (by omega) (by omega)
theorem al_22 (w : World) : (sAlloc 22).run pr w = .ok (.value (pt w.heap.size 0)) (w.alloc (.cells #[.slice none 0 0] 22)) := by kernel_rfl
theorem ok_by : okFn pr n_ds_Two_1 = true := by kernel_rfl
theorem itwo_ok (sv : Value) {g : UInt8} {x y : Span} (hg : SignOk g) (hx : InvSp x) (hy : InvSp y) (w : World) :
 Calls pr n_ds_Two #[sv, .int .u8 g.toNat, spV x, spV y] w (Ret (tup2 (spV (twoV g x y).1) (twoV g x y).2) w) := by
 refine sh_ds_Two_ok _ _ _ _ _ _ ?_
 unfold sh_ds_Two
 obtain ⟨x1, x2, x3⟩ := id hx
 obtain ⟨y1, y2, y3⟩ := id hy
 simp only [↓RL, ↓RM, ↓RT5, ↓RT, ↓RG, RV, Lm, Lc, eqA, eqB, eqC, Nat.reduceAdd, Nat.reduceEqDiff, ↓reduceIte, putL, List.all_cons, List.all_nil]
 generalize hw1 : ((((w.alloc (.cells sv.cells 166)).alloc (.cells #[vi x.lo, vi x.hi] 162)).alloc (.cells #[vi y.lo, vi y.hi] 162)).alloc (.cells #[vi 0, vi 0] tySpan)) = w1
 have ho1 : Old w w1 := by rw [← hw1]; simp (maxDischargeDepth := 60) only [OLD, size_alloc, size_put]
 have bx : w1.heap[w.heap.size + 1]? = some (.cells #[vi x.lo, vi x.hi] tySpan (0, 0)) := by
  rw [← hw1]; simp only [RV, Lm, Lc, eqA, eqB, eqC, Nat.reduceAdd, Nat.reduceEqDiff, ↓reduceIte]
 have by' : w1.heap[w.heap.size + 2]? = some (.cells #[vi y.lo, vi y.hi] tySpan (0, 0)) := by
  rw [← hw1]; simp only [RV, Lm, Lc, eqA, eqB, eqC, Nat.reduceAdd, Nat.reduceEqDiff, ↓reduceIte]
 have br : w1.heap[w.heap.size + 3]? = some (.cells #[vi 0, vi 0] tySpan (0, 0)) := by
  rw [← hw1]; simp only [RV, Lm, Lc, eqA, eqB, eqC, Nat.reduceAdd, Nat.reduceEqDiff, ↓reduceIte]
 have hs1 : w1.heap.size = w.heap.size + 4 := by rw [← hw1]; simp only [size_alloc]
 clear hw1
 rcases hg with rfl | rfl | rfl | rfl | rfl
 ·simp only [show ((((43 : UInt8).toNat : Nat) : Int) == 43) = true from rfl, bx, by', ↓RL, ↓RM, ↓RT5, ↓RT, ↓RG, RV, wr (show -9223372036854775808 ≤ x.lo + y.lo by omega) (by omega), wr (show -9223372036854775808 ≤ x.hi + y.hi by omega) (by omega)]
  refine cl_of (fit_ok _ _ _) ?_
  rintro e w2 ⟨rfl, ho2⟩
  simp only [endK, ↓RL, ↓RM, ↓RT5, ↓RT, ↓RG, RV, ho2.heap br, Lm, Lc, eqA, eqB, eqC, Nat.reduceAdd, Nat.reduceEqDiff, ↓reduceIte, putL, List.all_cons, List.all_nil]
  exact ⟨rfl, ((ho1.trans ho2).put (by omega)).put (by omega)⟩
 ·simp only [show ((((45 : UInt8).toNat : Nat) : Int) == 43) = false from rfl, show ((((45 : UInt8).toNat : Nat) : Int) == 45) = true from rfl, bx, by', ↓RL, ↓RM, ↓RT5, ↓RT, ↓RG, RV, wr (show -9223372036854775808 ≤ x.lo - y.hi by omega) (by omega), wr (show -9223372036854775808 ≤ x.hi - y.lo by omega) (by omega)]
  refine cl_of (fit_ok _ _ _) ?_
  rintro e w2 ⟨rfl, ho2⟩
  simp only [endK, ↓RL, ↓RM, ↓RT5, ↓RT, ↓RG, RV, ho2.heap br, Lm, Lc, eqA, eqB, eqC, Nat.reduceAdd, Nat.reduceEqDiff, ↓reduceIte, putL, List.all_cons, List.all_nil]
  exact ⟨rfl, ((ho1.trans ho2).put (by omega)).put (by omega)⟩
 ·have m1 := wr_mul (a := x.lo) (b := y.lo) (by omega) (by omega) (by omega) (by omega)
  have m2 := wr_mul (a := x.lo) (b := y.hi) (by omega) (by omega) (by omega) (by omega)
  have m3 := wr_mul (a := x.hi) (b := y.lo) (by omega) (by omega) (by omega) (by omega)
  have m4 := wr_mul (a := x.hi) (b := y.hi) (by omega) (by omega) (by omega) (by omega)
  simp only [show ((((42 : UInt8).toNat : Nat) : Int) == 43) = false from rfl, show ((((42 : UInt8).toNat : Nat) : Int) == 45) = false from rfl, show ((((42 : UInt8).toNat : Nat) : Int) == 42) = true from rfl, bx, by', ↓RL, ↓RM, ↓RT5, ↓RT, ↓RG, RV, m1, m2, m3, m4]
  refine cl_of (hull_ok (l := [x.lo * y.hi, x.hi * y.lo, x.hi * y.hi]) _ (.inr ⟨w1.heap.size, 0, 3, #[vi (x.lo * y.hi), vi (x.hi * y.lo), vi (x.hi * y.hi)], 3, (0, 0), by rw [hs1]; rfl, heap_alloc_self _, ?_⟩) (by simp)) ?_
  ·intro j z hj
   match j with
   | 0 => simp at hj; subst hj; rfl
   | 1 => simp at hj; subst hj; rfl
   | 2 => simp at hj; subst hj; rfl
   | n + 3 => simp at hj
  rintro e w2 ⟨rfl, ho2⟩
  have ho2 := ((Old.refl w1).alloc _).trans ho2
  simp only [endK]
  first | refine o_spanVar (x := hullV (x.lo * y.lo) [x.lo * y.hi, x.hi * y.lo, x.hi * y.hi]) ?_ | refine o_spanSt (x := hullV (x.lo * y.lo) [x.lo * y.hi, x.hi * y.lo, x.hi * y.hi]) ?_
  intro w3 ho3 hb3
  simp only [↓RL, ↓RM, ↓RT5, ↓RT, ↓RG, RV, hb3]
  refine cl_of (fit_ok _ _ _) ?_
  rintro e w4 ⟨rfl, ho4⟩
  simp only [endK, ↓RL, ↓RM, ↓RT5, ↓RT, ↓RG, RV, ho4.heap (ho3.heap (ho2.heap br)), Lm, Lc, eqA, eqB, eqC, Nat.reduceAdd, Nat.reduceEqDiff, ↓reduceIte, putL, List.all_cons, List.all_nil]
  exact ⟨rfl, ((((ho1.trans ho2).trans ho3).trans ho4).put (by omega)).put (by omega)⟩
 ·by_cases z : y.lo = 0 ∧ y.hi = 0
  ·have t : twoV 47 x y = (y, false) := by simp [twoV, z]
   rw [t]
   have d1 : (y.lo == 0) = true := by simpa using z.1
   have d2 : (y.hi == 0) = true := by simpa using z.2
   simp only [show ((((47 : UInt8).toNat : Nat) : Int) == 43) = false from rfl, show ((((47 : UInt8).toNat : Nat) : Int) == 45) = false from rfl, show ((((47 : UInt8).toNat : Nat) : Int) == 42) = false from rfl, show ((((47 : UInt8).toNat : Nat) : Int) == 37) = false from rfl, bx, by', br, d1, d2, cond_true, ↓RL, ↓RM, ↓RT5, ↓RT, ↓RG, RV, Lm, Lc, eqA, eqB, eqC, Nat.reduceAdd, Nat.reduceEqDiff, ↓reduceIte, putL, List.all_cons, List.all_nil]
   exact ⟨rfl, (ho1.put (by omega)).put (by omega)⟩
  ·have dz : (y.lo == 0) = false ∨ (y.lo == 0) = true ∧ (y.hi == 0) = false := by
    by_cases h : y.lo = 0
    ·exact .inr ⟨by simpa using h, by simp; exact fun h2 => z ⟨h, h2⟩⟩
    ·exact .inl (by simpa using h)
   have tw : twoV 47 x y = (fitV (hullV ((quotV x y).headD 0) (quotV x y)).lo (hullV ((quotV x y).headD 0) (quotV x y)).hi, true) := by simp [twoV, z]
   rw [tw]
   have rAl22 : ∀ E w K, o pr E w (sAlloc 22) K = K (pt w.heap.size 0) (w.alloc (.cells #[.slice none 0 0] 22)) := fun _ w _ => o_val (al_22 w)
   have A0 : ∀ w2, w1.alloc (.cells #[.slice none 0 0] 22) = w2 → Old w1 w2 ∧ AllAt w w2 w2 w1.heap.size (w.heap.size + 1) x [] := fun w2 hw2 => by
    have ho2 : Old w1 w2 := by rw [← hw2]; exact (Old.refl w1).alloc _
    exact ⟨ho2, ho1.trans ho2, fun c y h _ _ => h, by omega, ⟨ho1.size, by omega⟩, ho2.heap bx, _, (by rw [← hw2]; exact heap_alloc_self _), World.ownsRow_nil w2 _ _ _⟩
   have hq : ∃ q0 qs, quotV x y = q0 :: qs := by
    unfold quotV byV
    by_cases h : y.lo ≤ min y.hi (-1)
    ·rw [if_pos h]; exact ⟨_, _, rfl⟩
    ·rw [if_neg h, if_pos (by omega)]; exact ⟨_, _, rfl⟩
   have hql : (quotV x y).length ≤ 8 := by
    unfold quotV byV
    split <;> split <;> simp
   obtain ⟨q0, qs, hqe⟩ := hq
   rcases dz with d1 | ⟨d1, d2⟩
   ·simp only [show ((((47 : UInt8).toNat : Nat) : Int) == 43) = false from rfl, show ((((47 : UInt8).toNat : Nat) : Int) == 45) = false from rfl, show ((((47 : UInt8).toNat : Nat) : Int) == 42) = false from rfl, show ((((47 : UInt8).toNat : Nat) : Int) == 37) = false from rfl, bx, by', br, d1, cond_false, ↓RM, ↓RT5, ↓RT, ↓RG, RV]
    rw [rAl22]
    generalize hw2 : w1.alloc (.cells #[.slice none 0 0] 22) = w2
    obtain ⟨ho2, A0⟩ := A0 w2 hw2
    simp only [ho2.heap by', ↓RM, ↓RT5, ↓RT, ↓RG, RV, ↓rCallF ok_by]
    refine cl_of (by_ok hx A0 (by simp) y.lo (min y.hi (-1)) (fun h => by omega) (fun h => by omega)) ?_
    rintro e w3 ⟨⟨v3, rfl⟩, A3⟩
    have by3 := A3.kp _ _ (ho2.heap by') (by omega) (fun cs e => by cases e)
    simp only [endK, by3, ↓RM, ↓RT5, ↓RT, ↓RG, RV, ↓rCallF ok_by]
    refine cl_of (by_ok hx A3 (by unfold byV; split <;> simp) (max y.lo 1) y.hi (fun h => by omega) (fun h => by omega)) ?_
    rintro e w4 ⟨⟨v4, rfl⟩, A4⟩
    have br4 := A4.kp _ _ (ho2.heap br) (by omega) (fun cs e => by cases e)
    obtain ⟨va, ha4, hown4⟩ := A4.a
    have hqq : [] ++ byV x y.lo (min y.hi (-1)) ++ byV x (max y.lo 1) y.hi = q0 :: qs := by rw [List.nil_append, ← hqe]; rfl
    rw [hqq] at hown4
    rw [hqe] at hql ⊢
    obtain ⟨nb, cap, cur, rfl, _, hnb, _, _, _, htk⟩ : ∃ nb cap cur, va = .slice (some ⟨nb, 0, none⟩) (q0 :: qs).length cap ∧ w.heap.size ≤ nb ∧ w4.heap[nb]? = some (.cells cur 3 (0, 0)) ∧ (q0 :: qs).length ≤ cap ∧ cap ≤ maxLen ∧ cur.size = cap * 1 ∧ cur.toList.take ((q0 :: qs).length * 1) = (q0 :: qs).map vi := by
     rcases hown4.2 with ⟨_, hz⟩ | hh
     ·simp at hz
     ·exact hh
    have hint : IntsAt w4 (.slice (some ⟨nb, 0, none⟩) (q0 :: qs).length cap) (q0 :: qs) := .inr ⟨nb, 0, cap, cur, 3, (0, 0), rfl, hnb, fun j z hj => by
     rw [Nat.zero_add, ← Array.getElem?_toList]
     exact take_get htk (by rw [List.getElem?_map, hj]; rfl)⟩
    have hc0 : blkCell (w4.heap[nb]?) 0 = some (vi q0) := by
     rw [hnb]
     show cur[0]? = _
     rw [← Array.getElem?_toList]
     exact take_get htk rfl
    have e0 : (q0 :: qs).headD 0 = q0 := rfl
    rw [e0]
    have ho5 : Old w4 (Sh.dr w4) := (Old.refl w4).dr
    simp only [endK, ha4, hc0, (pur_IAs el22 (Int.le_refl 0) (by simp : (0 : Int) < ((q0 :: qs).length : Nat))).oz, Int.toNat_zero, Nat.zero_mul, Nat.add_zero, ↓RM, ↓RT5, ↓RT, ↓RG, RV]
    refine ⟨?_, ?_⟩
    ·refine cl_of (hull_ok q0 (hint.old ho5) (by omega)) ?_
     rintro e w6 ⟨rfl, ho6⟩
     have ho6 := ho5.trans ho6
     simp only [endK]
     first | refine o_spanVar (x := hullV q0 (q0 :: qs)) ?_ | refine o_spanSt (x := hullV q0 (q0 :: qs)) ?_
     intro w7 ho7 hb7
     have ho7 := ho6.trans ho7
     simp only [↓RL, ↓RM, ↓RT5, ↓RT, ↓RG, RV, hb7]
     refine cl_of (fit_ok _ _ _) ?_
     rintro e w8 ⟨rfl, ho8⟩
     simp only [endK, ↓RL, ↓RM, ↓RT5, ↓RT, ↓RG, RV, ho8.heap (ho7.heap br4), Lm, Lc, eqA, eqB, eqC, Nat.reduceAdd, Nat.reduceEqDiff, ↓reduceIte, putL, List.all_cons, List.all_nil]
     exact ⟨rfl, (((A4.old.trans ho7).trans ho8).put (by omega)).put (by omega)⟩
    ·try simp only [↓rAlSpan]
     have ho6 : Old w4 ((Sh.dr w4).alloc (.cells #[vi 0, vi 0] tySpan)) := ho5.alloc _
     have hb6 : ((Sh.dr w4).alloc (.cells #[vi 0, vi 0] tySpan)).heap[w4.heap.size]? = some (.cells #[vi 0, vi 0] tySpan (0, 0)) := heap_alloc_self _
     have hz6 := lt_of_heap hb6
     generalize (Sh.dr w4).alloc (.cells #[vi 0, vi 0] tySpan) = w6 at *
     have hc6 : blkCell (w6.heap[nb]?) 0 = some (vi q0) := by rw [ho6.heap hnb]; rw [hnb] at hc0; exact hc0
     simp only [ho6.heap ha4, hc6, ↓RM, ↓RT5, ↓RT, ↓RG, RV]
     refine cl_of (hull_ok q0 (hint.old ho6) (by omega)) ?_
     rintro e w7 ⟨rfl, ho7⟩
     have hb7 := ho7.heap hb6
     have ho7 := ho6.trans ho7
     have br7 := ho7.heap br4
     have hn3 : w.heap.size + 3 ≠ w4.heap.size := by have := lt_of_heap br4; show w.heap.size + 3 ≠ w4.heap.size; omega
     have hn4 : w.heap.size ≤ w4.heap.size := by have := A4.old.size; show w.heap.size ≤ w4.heap.size; omega
     generalize w4.heap.size = b14 at *
     simp only [endK, ↓RL, ↓RM, ↓RT5, ↓RT, ↓RG, RV, hb7, okRow2, putL, List.all_cons, List.all_nil, Bool.and_self]
     refine cl_of (fit_ok _ _ _) ?_
     rintro e w8 ⟨rfl, ho8⟩
     have br8 : w8.heap[w.heap.size + 3]? = some (.cells #[vi 0, vi 0] tySpan (0, 0)) := ho8.heap (by rw [heap_put_ne hn3, heap_put_ne hn3]; exact br7)
     simp only [endK, ↓RL, ↓RM, ↓RT5, ↓RT, ↓RG, RV, br8, Lm, Lc, eqA, eqB, eqC, Nat.reduceAdd, Nat.reduceEqDiff, ↓reduceIte, putL, List.all_cons, List.all_nil]
     exact ⟨rfl, (((((A4.old.trans ho7).put hn4).put hn4).trans ho8).put (by omega)).put (by omega)⟩
   ·simp only [show ((((47 : UInt8).toNat : Nat) : Int) == 43) = false from rfl, show ((((47 : UInt8).toNat : Nat) : Int) == 45) = false from rfl, show ((((47 : UInt8).toNat : Nat) : Int) == 42) = false from rfl, show ((((47 : UInt8).toNat : Nat) : Int) == 37) = false from rfl, bx, by', br, d1, d2, cond_true, cond_false, ↓RM, ↓RT5, ↓RT, ↓RG, RV]
    rw [rAl22]
    generalize hw2 : w1.alloc (.cells #[.slice none 0 0] 22) = w2
    obtain ⟨ho2, A0⟩ := A0 w2 hw2
    simp only [ho2.heap by', ↓RM, ↓RT5, ↓RT, ↓RG, RV, ↓rCallF ok_by]
    refine cl_of (by_ok hx A0 (by simp) y.lo (min y.hi (-1)) (fun h => by omega) (fun h => by omega)) ?_
    rintro e w3 ⟨⟨v3, rfl⟩, A3⟩
    have by3 := A3.kp _ _ (ho2.heap by') (by omega) (fun cs e => by cases e)
    simp only [endK, by3, ↓RM, ↓RT5, ↓RT, ↓RG, RV, ↓rCallF ok_by]
    refine cl_of (by_ok hx A3 (by unfold byV; split <;> simp) (max y.lo 1) y.hi (fun h => by omega) (fun h => by omega)) ?_
    rintro e w4 ⟨⟨v4, rfl⟩, A4⟩
    have br4 := A4.kp _ _ (ho2.heap br) (by omega) (fun cs e => by cases e)
    obtain ⟨va, ha4, hown4⟩ := A4.a
    have hqq : [] ++ byV x y.lo (min y.hi (-1)) ++ byV x (max y.lo 1) y.hi = q0 :: qs := by rw [List.nil_append, ← hqe]; rfl
    rw [hqq] at hown4
    rw [hqe] at hql ⊢
    obtain ⟨nb, cap, cur, rfl, _, hnb, _, _, _, htk⟩ : ∃ nb cap cur, va = .slice (some ⟨nb, 0, none⟩) (q0 :: qs).length cap ∧ w.heap.size ≤ nb ∧ w4.heap[nb]? = some (.cells cur 3 (0, 0)) ∧ (q0 :: qs).length ≤ cap ∧ cap ≤ maxLen ∧ cur.size = cap * 1 ∧ cur.toList.take ((q0 :: qs).length * 1) = (q0 :: qs).map vi := by
     rcases hown4.2 with ⟨_, hz⟩ | hh
     ·simp at hz
     ·exact hh
    have hint : IntsAt w4 (.slice (some ⟨nb, 0, none⟩) (q0 :: qs).length cap) (q0 :: qs) := .inr ⟨nb, 0, cap, cur, 3, (0, 0), rfl, hnb, fun j z hj => by
     rw [Nat.zero_add, ← Array.getElem?_toList]
     exact take_get htk (by rw [List.getElem?_map, hj]; rfl)⟩
    have hc0 : blkCell (w4.heap[nb]?) 0 = some (vi q0) := by
     rw [hnb]
     show cur[0]? = _
     rw [← Array.getElem?_toList]
     exact take_get htk rfl
    have e0 : (q0 :: qs).headD 0 = q0 := rfl
    rw [e0]
    have ho5 : Old w4 (Sh.dr w4) := (Old.refl w4).dr
    simp only [endK, ha4, hc0, (pur_IAs el22 (Int.le_refl 0) (by simp : (0 : Int) < ((q0 :: qs).length : Nat))).oz, Int.toNat_zero, Nat.zero_mul, Nat.add_zero, ↓RM, ↓RT5, ↓RT, ↓RG, RV]
    refine ⟨?_, ?_⟩
    ·refine cl_of (hull_ok q0 (hint.old ho5) (by omega)) ?_
     rintro e w6 ⟨rfl, ho6⟩
     have ho6 := ho5.trans ho6
     simp only [endK]
     first | refine o_spanVar (x := hullV q0 (q0 :: qs)) ?_ | refine o_spanSt (x := hullV q0 (q0 :: qs)) ?_
     intro w7 ho7 hb7
     have ho7 := ho6.trans ho7
     simp only [↓RL, ↓RM, ↓RT5, ↓RT, ↓RG, RV, hb7]
     refine cl_of (fit_ok _ _ _) ?_
     rintro e w8 ⟨rfl, ho8⟩
     simp only [endK, ↓RL, ↓RM, ↓RT5, ↓RT, ↓RG, RV, ho8.heap (ho7.heap br4), Lm, Lc, eqA, eqB, eqC, Nat.reduceAdd, Nat.reduceEqDiff, ↓reduceIte, putL, List.all_cons, List.all_nil]
     exact ⟨rfl, (((A4.old.trans ho7).trans ho8).put (by omega)).put (by omega)⟩
    ·try simp only [↓rAlSpan]
     have ho6 : Old w4 ((Sh.dr w4).alloc (.cells #[vi 0, vi 0] tySpan)) := ho5.alloc _
     have hb6 : ((Sh.dr w4).alloc (.cells #[vi 0, vi 0] tySpan)).heap[w4.heap.size]? = some (.cells #[vi 0, vi 0] tySpan (0, 0)) := heap_alloc_self _
     have hz6 := lt_of_heap hb6
     generalize (Sh.dr w4).alloc (.cells #[vi 0, vi 0] tySpan) = w6 at *
     have hc6 : blkCell (w6.heap[nb]?) 0 = some (vi q0) := by rw [ho6.heap hnb]; rw [hnb] at hc0; exact hc0
     simp only [ho6.heap ha4, hc6, ↓RM, ↓RT5, ↓RT, ↓RG, RV]
     refine cl_of (hull_ok q0 (hint.old ho6) (by omega)) ?_
     rintro e w7 ⟨rfl, ho7⟩
     have hb7 := ho7.heap hb6
     have ho7 := ho6.trans ho7
     have br7 := ho7.heap br4
     have hn3 : w.heap.size + 3 ≠ w4.heap.size := by have := lt_of_heap br4; show w.heap.size + 3 ≠ w4.heap.size; omega
     have hn4 : w.heap.size ≤ w4.heap.size := by have := A4.old.size; show w.heap.size ≤ w4.heap.size; omega
     generalize w4.heap.size = b14 at *
     simp only [endK, ↓RL, ↓RM, ↓RT5, ↓RT, ↓RG, RV, hb7, okRow2, putL, List.all_cons, List.all_nil, Bool.and_self]
     refine cl_of (fit_ok _ _ _) ?_
     rintro e w8 ⟨rfl, ho8⟩
     have br8 : w8.heap[w.heap.size + 3]? = some (.cells #[vi 0, vi 0] tySpan (0, 0)) := ho8.heap (by rw [heap_put_ne hn3, heap_put_ne hn3]; exact br7)
     simp only [endK, ↓RL, ↓RM, ↓RT5, ↓RT, ↓RG, RV, br8, Lm, Lc, eqA, eqB, eqC, Nat.reduceAdd, Nat.reduceEqDiff, ↓reduceIte, putL, List.all_cons, List.all_nil]
     exact ⟨rfl, (((((A4.old.trans ho7).put hn4).put hn4).trans ho8).put (by omega)).put (by omega)⟩
 ·by_cases z : y.lo = 0 ∧ y.hi = 0
  ·have t : twoV 37 x y = (y, false) := by simp [twoV, z]
   rw [t]
   have d1 : (y.lo == 0) = true := by simpa using z.1
   have d2 : (y.hi == 0) = true := by simpa using z.2
   simp only [show ((((37 : UInt8).toNat : Nat) : Int) == 43) = false from rfl, show ((((37 : UInt8).toNat : Nat) : Int) == 45) = false from rfl, show ((((37 : UInt8).toNat : Nat) : Int) == 42) = false from rfl, show ((((37 : UInt8).toNat : Nat) : Int) == 37) = true from rfl, bx, by', br, d1, d2, cond_true, ↓RL, ↓RM, ↓RT5, ↓RT, ↓RG, RV, Lm, Lc, eqA, eqB, eqC, Nat.reduceAdd, Nat.reduceEqDiff, ↓reduceIte, putL, List.all_cons, List.all_nil]
   exact ⟨rfl, (ho1.put (by omega)).put (by omega)⟩
  ·have dz : (y.lo == 0) = false ∨ (y.lo == 0) = true ∧ (y.hi == 0) = false := by
    by_cases h : y.lo = 0
    ·exact .inr ⟨by simpa using h, by simp; exact fun h2 => z ⟨h, h2⟩⟩
    ·exact .inl (by simpa using h)
   have tw : twoV 37 x y = (⟨max (min x.lo 0) (-(max (-y.lo) y.hi - 1)), min (max x.hi 0) (max (-y.lo) y.hi - 1)⟩, true) := by simp [twoV, z]
   rw [tw]
   have n1 : IntKind.i64.wrap (0 - y.lo) = -y.lo := by rw [wr (by omega) (by omega)]; omega
   have n2 : IntKind.i64.wrap (max (-y.lo) y.hi - 1) = max (-y.lo) y.hi - 1 := wr (by omega) (by omega)
   have n3 : IntKind.i64.wrap (0 - (max (-y.lo) y.hi - 1)) = -(max (-y.lo) y.hi - 1) := by rw [wr (by omega) (by omega)]; omega
   rcases dz with d1 | ⟨d1, d2⟩
   ·simp only [show ((((37 : UInt8).toNat : Nat) : Int) == 43) = false from rfl, show ((((37 : UInt8).toNat : Nat) : Int) == 45) = false from rfl, show ((((37 : UInt8).toNat : Nat) : Int) == 42) = false from rfl, show ((((37 : UInt8).toNat : Nat) : Int) == 37) = true from rfl, bx, by', br, d1, cond_false, ↓RL, ↓RM, ↓RT5, ↓RT, ↓RG, RV, n1, n2, n3, Lm, Lc, eqA, eqB, eqC, Nat.reduceAdd, Nat.reduceEqDiff, ↓reduceIte, putL, List.all_cons, List.all_nil]
    exact ⟨rfl, (ho1.put (by omega)).put (by omega)⟩
   ·simp only [show ((((37 : UInt8).toNat : Nat) : Int) == 43) = false from rfl, show ((((37 : UInt8).toNat : Nat) : Int) == 45) = false from rfl, show ((((37 : UInt8).toNat : Nat) : Int) == 42) = false from rfl, show ((((37 : UInt8).toNat : Nat) : Int) == 37) = true from rfl, bx, by', br, d1, d2, cond_true, ↓RL, ↓RM, ↓RT5, ↓RT, ↓RG, RV, n1, n2, n3, Lm, Lc, eqA, eqB, eqC, Nat.reduceAdd, Nat.reduceEqDiff, ↓reduceIte, putL, List.all_cons, List.all_nil]
    exact ⟨rfl, (ho1.put (by omega)).put (by omega)⟩
end Go.Inv
namespace Go.Inv
open Go.Sh
def stepF (j : Span) (s : Int × Int) (n : Int) : Int × Int := (if n ≤ j.lo then max s.1 n else s.1, if n ≥ j.hi then min s.2 n else s.2)
theorem stepsV_eq (steps : List Int) (j : Span) : stepsV steps j = steps.foldl (stepF j) (-32768, 32767) := rfl
def EqW (xs : List Value) (w1 : World) (vs : List Value) (w' : World) : Prop := vs = xs ∧ w' = w1
def EqL (p : Prop) (xs : List Value) (w1 : World) (vs : List Value) (w' : World) : Prop := vs = xs ∧ p ∧ w' = w1
def WdK (w : World) (i j : Span) (st : Int × Int) (vs : List Value) (w' : World) : Prop := vs = [vi st.2] ∧ Old w w' ∧ w'.heap[w.heap.size + 1]? = some (.cells #[vi (if j.lo < i.lo then st.1 else i.lo), vi i.hi] tySpan (0, 0)) ∧ w'.heap[w.heap.size + 2]? = some (.cells #[vi j.lo, vi j.hi] tySpan (0, 0)) ∧ w'.heap[w.heap.size + 3]? = some (.cells #[vi 0, vi 0] tySpan (0, 0))
def WdI (w1 : World) (steps : List Int) (j : Span) (vs : List Value) (w' : World) : Prop := ∃ k : Nat, vs = [vi ((steps.take k).foldl (stepF j) (-32768, 32767)).1, vi ((steps.take k).foldl (stepF j) (-32768, 32767)).2, vi k] ∧ k ≤ steps.length ∧ w' = w1
def WdM (steps : List Int) (vs : List Value) (_ : World) : Nat := match vs with
 | [_, _, .int _ n] => steps.length - n.toNat
 | _ => 0
theorem iwiden_ok {steps : List Int} {v : Value} {i j : Span} {w : World} (hv : IntsAt w v steps) (hlen : steps.length ≤ 1000000) (hone : isOne v = true) :
 Calls pr n_ds_Widen #[.agg #[v], spV i, spV j] w (Ret (spV (widenV steps i j)) w) := by
 refine sh_ds_Widen_ok _ _ _ _ _ ?_
 unfold sh_ds_Widen
 simp only [↓RL, ↓RM, ↓RT5, ↓RT, ↓RG, RV, Lm, Lc, eqA, eqB, eqC, Nat.reduceAdd, Nat.reduceEqDiff, ↓reduceIte, putL, List.all_cons, List.all_nil]
 generalize hw1 : ((((w.alloc (.cells #[v] 166)).alloc (.cells #[vi i.lo, vi i.hi] 162)).alloc (.cells #[vi j.lo, vi j.hi] 162)).alloc (.cells #[vi 0, vi 0] tySpan)) = w1
 have ho1 : Old w w1 := by rw [← hw1]; simp (maxDischargeDepth := 60) only [OLD, size_alloc, size_put]
 have bs : w1.heap[w.heap.size]? = some (.cells #[v] tySpans (0, 0)) := by
  rw [← hw1]; simp only [RV, Lm, Lc, eqA, eqB, eqC, Nat.reduceAdd, Nat.reduceEqDiff, ↓reduceIte]
 have bi : w1.heap[w.heap.size + 1]? = some (.cells #[vi i.lo, vi i.hi] tySpan (0, 0)) := by
  rw [← hw1]; simp only [RV, Lm, Lc, eqA, eqB, eqC, Nat.reduceAdd, Nat.reduceEqDiff, ↓reduceIte]
 have bj : w1.heap[w.heap.size + 2]? = some (.cells #[vi j.lo, vi j.hi] tySpan (0, 0)) := by
  rw [← hw1]; simp only [RV, Lm, Lc, eqA, eqB, eqC, Nat.reduceAdd, Nat.reduceEqDiff, ↓reduceIte]
 have br : w1.heap[w.heap.size + 3]? = some (.cells #[vi 0, vi 0] tySpan (0, 0)) := by
  rw [← hw1]; simp only [RV, Lm, Lc, eqA, eqB, eqC, Nat.reduceAdd, Nat.reduceEqDiff, ↓reduceIte]
 clear hw1
 have hv1 := hv.old ho1
 obtain ⟨sa, sc, hve⟩ := hv.len
 refine ⟨WdK w i j (stepsV steps j), ?_, ?_⟩
 ·rintro e1 w2 ⟨he, ho2, ci, cj, cr⟩
  have e8 : e1 8 = vi (stepsV steps j).2 := by simpa using he
  rw [e8]
  refine ⟨fun _ w' => Old w w' ∧ w'.heap[w.heap.size + 1]? = some (.cells #[vi (widenV steps i j).lo, vi (widenV steps i j).hi] tySpan (0, 0)) ∧ w'.heap[w.heap.size + 3]? = some (.cells #[vi 0, vi 0] tySpan (0, 0)), ?_, ?_⟩
  ·rintro e2 w3 ⟨ho3, ci3, cr3⟩
   simp only [↓RL, ↓RM, ↓RT5, ↓RT, ↓RG, RV, ci3, cr3, Lm, Lc, eqA, eqB, eqC, Nat.reduceAdd, Nat.reduceEqDiff, ↓reduceIte, putL, List.all_cons, List.all_nil]
   exact ⟨rfl, (ho3.put (by omega)).put (by omega)⟩
  ·by_cases hh : j.hi > i.hi
   ·have d : decide (j.hi > i.hi) = true := by simpa using hh
    simp only [↓RL, ↓RM, ↓RT5, ↓RT, ↓RG, RV, ci, cj, d, Nat.reduceLT, decide_true]
    refine ⟨ho2.put (by omega), ?_, by rw [heap_put_ne (by omega)]; exact cr⟩
    simp only [widenV, if_pos hh]
   ·have d : decide (j.hi > i.hi) = false := by simpa using hh
    simp only [↓RL, ↓RM, ↓RT5, ↓RT, ↓RG, RV, ci, cj, d]
    refine ⟨ho2, ?_, cr⟩
    simp only [widenV, if_neg hh]
 ·try simp only [↓RL, ↓RM, ↓RT5, ↓RT, ↓RG, RV, bs]
  rw [hve]
  try simp only [↓RL, ↓RM, ↓RT5, ↓RT, ↓RG, RV]
  rw [← hve]
  refine ⟨WdI w1 steps j, WdM steps, ⟨0, rfl, Nat.zero_le _, rfl⟩, ?_⟩
  rintro e3 w2 ⟨k, he, hk, rfl⟩
  obtain ⟨e7, e8, e14⟩ : e3 7 = vi ((steps.take k).foldl (stepF j) (-32768, 32767)).1 ∧ e3 8 = vi ((steps.take k).foldl (stepF j) (-32768, 32767)).2 ∧ e3 14 = vi k := by simpa using he
  rw [e7, e8, e14]
  have hwi : IntKind.i64.wrap ((k : Int) + 1) = ((k + 1 : Nat) : Int) := by rw [wrap64 (by omega) (by omega)]; omega
  simp only [↓RL, ↓RM, ↓RT5, ↓RT, ↓RG, RV]
  refine ⟨EqL (k < steps.length) [vi ((steps.take (k + 1)).foldl (stepF j) (-32768, 32767)).1, vi ((steps.take (k + 1)).foldl (stepF j) (-32768, 32767)).2] w2, ?_, ?_⟩
  ·rintro e4 w3 ⟨he4, hlt, rfl⟩
   obtain ⟨g7, g8⟩ : e4 7 = vi ((steps.take (k + 1)).foldl (stepF j) (-32768, 32767)).1 ∧ e4 8 = vi ((steps.take (k + 1)).foldl (stepF j) (-32768, 32767)).2 := by simpa using he4
   rw [g7, g8]
   simp only [↓RL, ↓RM, ↓RT5, ↓RT, ↓RG, RV, hwi]
   exact ⟨⟨k + 1, rfl, hlt, rfl⟩, by simp only [WdM, Int.toNat_natCast]; omega⟩
  ·refine condP_split (fun hlt => ?_) (fun hlt => ?_)
   ·have hlt : k < steps.length := by simpa using hlt
    have hx : steps[k]? = some steps[k] := by simp [hlt]
    have hst := foldl_step (f := stepF j) (b := ((-32768, 32767) : Int × Int)) hx
    obtain ⟨b, off, c, hvb, hcell⟩ := hv1.cell hx
    generalize steps[k] = n at *
    generalize (steps.take k).foldl (stepF j) (-32768, 32767) = s at *
    refine ⟨EqW [vi (if n ≤ j.lo then max s.1 n else s.1), vi n] w2, ?_, ?_⟩
    ·rintro e5 w3 ⟨he5, rfl⟩
     obtain ⟨g7, g10⟩ : e5 7 = vi (if n ≤ j.lo then max s.1 n else s.1) ∧ e5 10 = vi n := by simpa using he5
     rw [g7, g10]
     by_cases hh : n ≥ j.hi
     ·have d : decide (n ≥ j.hi) = true := by simpa using hh
      simp only [↓RL, ↓RM, ↓RT5, ↓RT, ↓RG, RV, bj, d]
      exact ⟨by rw [hst]; simp only [stepF, if_pos hh], hlt, rfl⟩
     ·have d : decide (n ≥ j.hi) = false := by simpa using hh
      simp only [↓RL, ↓RM, ↓RT5, ↓RT, ↓RG, RV, bj, d]
      exact ⟨by rw [hst]; simp only [stepF, if_neg hh], hlt, rfl⟩
    ·rw [hvb]
     simp only [(pur_IAs el22 (Int.natCast_nonneg k) (by omega : (k : Int) < (steps.length : Nat))).o, Int.toNat_natCast, Nat.mul_one, hcell, bj, ↓RL, ↓RM, ↓RT5, ↓RT, ↓RG, RV]
     by_cases hh : n ≤ j.lo
     ·have d : decide (n ≤ j.lo) = true := by simpa using hh
      simp only [↓RL, ↓RM, ↓RT5, ↓RT, ↓RG, RV, d]
      exact ⟨by rw [if_pos hh], rfl⟩
     ·have d : decide (n ≤ j.lo) = false := by simpa using hh
      simp only [↓RL, ↓RM, ↓RT5, ↓RT, ↓RG, RV, d]
      exact ⟨by rw [if_neg hh], rfl⟩
   ·have hkl : k = steps.length := by have : ¬ k < steps.length := by simpa using hlt
                                      omega
    subst hkl
    rw [List.take_length, ← stepsV_eq]
    by_cases hh : j.lo < i.lo
    ·have d : decide (j.lo < i.lo) = true := by simpa using hh
     simp only [↓RL, ↓RM, ↓RT5, ↓RT, ↓RG, RV, bi, bj, d, Nat.reduceLT, decide_true]
     refine ⟨rfl, ho1.put (by omega), ?_, by rw [heap_put_ne (by omega)]; exact bj, by rw [heap_put_ne (by omega)]; exact br⟩
     rw [if_pos hh]; first | rfl | (rw [heap_put_self, bi]; rfl)
    ·have d : decide (j.lo < i.lo) = false := by simpa using hh
     simp only [↓RL, ↓RM, ↓RT5, ↓RT, ↓RG, RV, bi, bj, d]
     exact ⟨rfl, ho1, by rw [if_neg hh]; first | rfl | exact bi, bj, br⟩
end Go.Inv
