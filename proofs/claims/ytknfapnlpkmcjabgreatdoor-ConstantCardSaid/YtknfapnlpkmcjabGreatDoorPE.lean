/- A part of the proofs of the cards of this seat: whatever the input, each law returns true and leaves its arguments as they were. No condition. -/
import Derived.Test.YtknfapnlpkmcjabGreatDoorPC
import Derived.Test.YtknfapnlpkmcjabGreatDoorPB
import Derived.Test.YtknfapnlpkmcjabGreatDoorPA
set_option linter.all false
set_option maxRecDepth 100000
set_option maxHeartbeats 32000000
namespace Go.Inv
open Go.Sh
def sh_rd_next (K : Value → World → Prop) (E : PanicK) (a0 : Value) (w : World) : Prop :=
 o pr E w (sBox 82 a0) fun t1 w =>
 o pr E w (sLoad 82 t1) fun t5 w =>
 o pr E w (sNil t5) fun t6 w =>
 o pr E w (sFA 87 t6 2) fun t7 w =>
 o pr E w (sLoad 3 t7) fun t8 w =>
 ∃ (I1 : List Value → World → Prop) (m1 : List Value → World → Nat), I1 [t8] w ∧
 ∀ (e1 : Nat → Value) w1, I1 [e1 2] w1 → (fun w =>
 (fun (k2 : Value → World → Prop) =>
 o pr E w (sLoad 82 t1) fun t10 w =>
 o pr E w (sNil t10) fun t11 w =>
 o pr E w (sFA 87 t11 0) fun t12 w =>
 o pr E w (sLoad 9 t12) fun t13 w =>
 o pr E w (sB .len [9] 3 [t13]) fun t14 w =>
 o pr E w (sBin .lss 3 (e1 2) t14 3) fun t15 w =>
 condG t15 true (o pr E w (sLoad 82 t1) fun t17 w =>
 o pr E w (sNil t17) fun t18 w =>
 o pr E w (sFA 87 t18 0) fun t19 w =>
 o pr E w (sLoad 9 t19) fun t20 w =>
 o pr E w (sIdx 9 t20 (e1 2)) fun t22 w =>
 o pr E w (sBinC .eql 5 t22 (Value.int IntKind.u8 32) 5) fun t23 w =>
 (fun (q1 : Value → World → Prop) =>
 condG t23 false (o pr E w (sLoad 82 t1) fun t25 w =>
 o pr E w (sNil t25) fun t26 w =>
 o pr E w (sFA 87 t26 0) fun t27 w =>
 o pr E w (sLoad 9 t27) fun t28 w =>
 o pr E w (sIdx 9 t28 (e1 2)) fun t30 w =>
 o pr E w (sBinC .eql 5 t30 (Value.int IntKind.u8 10) 5) fun t31 w =>
 q1 t31 w)
  (q1 undef w))
 (fun t31_1 w =>
 o pr E w (sPick t23 (Value.bool true) t31_1) fun t32 w =>
 o pr E w (sPick t15 t32 (Value.bool false)) fun t33_1 w =>
 k2 t33_1 w))
  ((fun (q2 : Value → World → Prop) =>
 condG undef false (o pr E w (sLoad 82 t1) fun t25_1 w =>
 o pr E w (sNil t25_1) fun t26_1 w =>
 o pr E w (sFA 87 t26_1 0) fun t27_1 w =>
 o pr E w (sLoad 9 t27_1) fun t28_1 w =>
 o pr E w (sIdx 9 t28_1 (e1 2)) fun t30_1 w =>
 o pr E w (sBinC .eql 5 t30_1 (Value.int IntKind.u8 10) 5) fun t31_2 w =>
 q2 t31_2 w)
  (q2 undef w))
 (fun _ w =>
 o pr E w (sPick t15 undef (Value.bool false)) fun t33_2 w =>
 k2 t33_2 w)))
 (fun t33 w =>
 condP t33 (o pr E w (sBinC .add 3 (e1 2) (Value.int IntKind.i64 1) 3) fun t35 w =>
 I1 [t35] w ∧ m1 [t35] w < m1 [e1 2] w1)
  ((fun w =>
 oa pr w (sLoad 82 t1) fun t36 =>
 oa pr w (sLoad 82 t1) fun t37 =>
 oz pr (sNil t36) fun t40 =>
 oz pr (sFA 87 t40 1) fun t41 =>
 o pr E w (sStore 3 t41 (e1 2)) fun _ w =>
 rk pr w (sLoad 82 t1) t37 ∧
 oz pr (sNil t37) fun t42 =>
 oz pr (sFA 87 t42 2) fun t43 =>
 o pr E w (sStore 3 t43 (e1 2)) fun _ w =>
 o pr E w (sLoad 82 t1) fun t45 w =>
 o pr E w (sNil t45) fun t46 w =>
 o pr E w (sFA 87 t46 0) fun t47 w =>
 o pr E w (sLoad 9 t47) fun t48 w =>
 o pr E w (sB .len [9] 3 [t48]) fun t49 w =>
 o pr E w (sBin .eql 3 (e1 2) t49 3) fun t50 w =>
 condP t50 (K (.tuple #[]) w)
  (o pr E w (sFunc (.func n_rd_next_1) [] [t1]) fun t51 w =>
 o pr E w (sLoad 82 t1) fun t52 w =>
 o pr E w (sNil t52) fun t53 w =>
 o pr E w (sFA 87 t53 0) fun t54 w =>
 o pr E w (sLoad 9 t54) fun t55 w =>
 o pr E w (sIdx 9 t55 (e1 2)) fun t57 w =>
 cl pr E w n_text_letter #[t57] fun t74 w =>
 condP t74 (o pr E w (sCall t51 [(Fu n_text_letter)]) fun _ w =>
 K (.tuple #[]) w)
  (cl pr E w n_text_digit #[t57] fun t79 w =>
 condP t79 (o pr E w (sCall t51 [(Fu n_text_digit)]) fun _ w =>
 K (.tuple #[]) w)
  ((fun w =>
 oa pr w (sLoad 82 t1) fun t58 =>
 oz pr (sNil t58) fun t59 =>
 oz pr (sFA 87 t59 2) fun t60 =>
 oa pr w (sLoad 3 t60) fun t61 =>
 oa pr w (sLoad 82 t1) fun t62 =>
 oz pr (sNil t62) fun t63 =>
 oz pr (sFA 87 t63 0) fun t64 =>
 oa pr w (sLoad 9 t64) fun t65 =>
 oz pr (sSlice 9 t65 (some (e1 2)) none none) fun t67 =>
 cl pr E w n_text_sign #[t67] fun t68 w =>
 rk pr w (sLoad 3 t60) t61 ∧
 rk pr w (sLoad 82 t1) t58 ∧
 oz pr (sBin .add 3 t61 t68 3) fun t69 =>
 oz pr (sNil t58) fun t70 =>
 oz pr (sFA 87 t70 2) fun t71 =>
 o pr E w (sStore 3 t71 t69) fun _ w =>
 K (.tuple #[]) w) (dr w))))) (dr w)))) w1
def lv_rd_next : Lives := [(1, [1]), (2, [1, 2]), (3, [1, 2]), (4, [1, 2]), (5, [1, 2]), (6, [1, 2]), (7, [1, 2, 3]), (9, [1, 2, 3, 4]), (10, [1, 2, 3, 4, 72]), (12, [1, 2, 3, 77])]
theorem sh_rd_next_ok (a0 : Value) (w : World) (R : Ending → World → Prop)
 (h : sh_rd_next (fun v w => R (.returned v) w) (fun c w => R (.panicked c) w) a0 w) : Calls pr n_rd_next #[a0] w R :=
 calls_of_W (A := lv_rd_next) enters mixed Go.Proofs.Tryz.func24 (by kernel_rfl) (by kernel_rfl) (by kernel_rfl)
  (Eq.mp (by kernel_rfl) h)
def sh_rd_statements (K : Value → World → Prop) (E : PanicK) (a0 : Value) (w : World) : Prop :=
 cl pr E w n_rd_kinds #[a0] fun t10 w =>
 ∃ (I1 : List Value → World → Prop) (m1 : List Value → World → Nat), I1 [(Value.slice none 0 0)] w ∧
 ∀ (e1 : Nat → Value) w1, I1 [e1 4] w1 → (fun w =>
 cl pr E w n_rd_token #[a0] fun t14 w =>
 o pr E w (sLook 127 t10 t14 true) fun t15 w =>
 o pr E w (sExt t15 0) fun t16 w =>
 o pr E w (sExt t15 1) fun t17 w =>
 o pr E w (sNil a0) fun t19 w =>
 o pr E w (sFA 87 t19 4) fun t20 w =>
 o pr E w (sLoad 66 t20) fun t21 w =>
 o pr E w (sNil t21) fun t22 w =>
 o pr E w (sFA 85 t22 1) fun t23 w =>
 o pr E w (sLoad 3 t23) fun t24 w =>
 o pr E w (sBuild 133 [(0, t24)]) fun t25 w =>
 o pr E w (sAlloc 133) fun t7 w =>
 o pr E w (sStore 133 t7 t25) fun _ w =>
 condP t17 (o pr E w (sNil a0) fun t30 w =>
 o pr E w (sFA 87 t30 4) fun t31 w =>
 o pr E w (sLoad 66 t31) fun t32 w =>
 o pr E w (sNil t32) fun t33 w =>
 o pr E w (sFA 85 t33 1) fun t34 w =>
 o pr E w (sLoad 3 t34) fun t35 w =>
 o pr E w (sBinC .add 3 t35 (Value.int IntKind.i64 1) 3) fun t36 w =>
 o pr E w (sNil t32) fun t37 w =>
 o pr E w (sFA 85 t37 1) fun t38 w =>
 o pr E w (sStore 3 t38 t36) fun _ w =>
 cl pr E w n_rd_next #[a0] fun _ w =>
 o pr E w (sLoad 133 t7) fun t43 w =>
 o pr E w (sCall t16 [t43]) fun t44 w =>
 o pr E w (sBuildSlice 83 1 [(0, t44)]) fun t45 w =>
 o pr E w (sB .append [83, 83] 83 [(e1 4), t45]) fun t46 w =>
 I1 [t46] w ∧ m1 [t46] w < m1 [e1 4] w1)
  (cl pr E w n_rd_variable #[a0] fun t49 w =>
 o pr E w (sBinC .geq 3 t49 (Value.int IntKind.i64 0) 3) fun t50 w =>
 condP t50 (o pr E w (sNil a0) fun t52 w =>
 o pr E w (sFA 87 t52 4) fun t53 w =>
 o pr E w (sLoad 66 t53) fun t54 w =>
 o pr E w (sNil t54) fun t55 w =>
 o pr E w (sFA 85 t55 1) fun t56 w =>
 o pr E w (sLoad 3 t56) fun t57 w =>
 o pr E w (sBinC .add 3 t57 (Value.int IntKind.i64 1) 3) fun t58 w =>
 o pr E w (sNil t54) fun t59 w =>
 o pr E w (sFA 85 t59 1) fun t60 w =>
 o pr E w (sStore 3 t60 t58) fun _ w =>
 (fun w =>
 oa pr w (sLoad 133 t7) fun t61 =>
 cl pr E w n_rd_name #[a0] fun t63 w =>
 rk pr w (sLoad 133 t7) t61 ∧
 oz pr (sBuild 140 [(0, t61), (1, t63)]) fun t64 =>
 o pr E w (sBox 140 t64) fun t65 w =>
 cl pr E w n_rd_take #[a0, (Value.string (S [61]))] fun _ w =>
 cl pr E w n_rd_sum #[a0] fun t70 w =>
 o pr E w (sNil t65) fun t71 w =>
 o pr E w (sFA 140 t71 2) fun t72 w =>
 o pr E w (sStore 138 t72 t70) fun _ w =>
 cl pr E w n_rd_take #[a0, (Value.string (S [59]))] fun _ w =>
 o pr E w (sIface 136 t65) fun t77 w =>
 o pr E w (sBuildSlice 83 1 [(0, t77)]) fun t78 w =>
 o pr E w (sB .append [83, 83] 83 [(e1 4), t78]) fun t79 w =>
 I1 [t79] w ∧ m1 [t79] w < m1 [e1 4] w1) (dr w))
  (K (e1 4) w))) w1
def lv_rd_statements : Lives := [(1, [0]), (2, [0, 3]), (3, [0, 3, 4]), (4, [0, 3, 4, 5, 6]), (6, [0, 3, 4, 5, 6, 7]), (7, [0, 3, 4, 5, 7, 27]), (8, [0, 3, 4, 5, 7]), (9, [0, 3, 4, 5, 7]), (11, [0, 3, 4, 7, 47]), (12, [0, 3, 4, 7]), (13, [0, 3, 4, 8]), (14, [0, 3, 4, 8]), (15, [0, 3, 4, 8]), (16, [0, 3, 4, 8])]
theorem sh_rd_statements_ok (a0 : Value) (w : World) (R : Ending → World → Prop)
 (h : sh_rd_statements (fun v w => R (.returned v) w) (fun c w => R (.panicked c) w) a0 w) : Calls pr n_rd_statements #[a0] w R :=
 calls_of_W (A := lv_rd_statements) enters mixed Go.Proofs.Tryz.func25 (by kernel_rfl) (by kernel_rfl) (by kernel_rfl)
  (Eq.mp (by kernel_rfl) h)
def sh_rd_leave (K : Value → World → Prop) (E : PanicK) (a0 a1 : Value) (w : World) : Prop :=
 o pr E w (sNil a0) fun t5 w =>
 o pr E w (sFA 87 t5 1) fun t6 w =>
 o pr E w (sLoad 3 t6) fun t7 w =>
 o pr E w (sBuild 77 [(0, t7)]) fun t8 w =>
 o pr E w (sBuild 79 [(0, t8), (1, a1)]) fun t10 w =>
 o pr E w (sBox 79 t10) fun t11 w =>
 o pr E w (sIface 73 t11) fun t12 w =>
 o pr E w (sPanic t12) fun _ w =>
 K (.tuple #[]) w
def lv_rd_leave : Lives := []
theorem sh_rd_leave_ok (a0 a1 : Value) (w : World) (R : Ending → World → Prop)
 (h : sh_rd_leave (fun v w => R (.returned v) w) (fun c w => R (.panicked c) w) a0 a1 w) : Calls pr n_rd_leave #[a0, a1] w R :=
 calls_of_W (A := lv_rd_leave) enters mixed Go.Proofs.Tryz.func26 (by kernel_rfl) (by kernel_rfl) (by kernel_rfl)
  (Eq.mp (by kernel_rfl) h)
def sh_rd_next_1 (K : Value → World → Prop) (E : PanicK) (a0 a1 : Value) (w : World) : Prop :=
 ∃ (I1 : List Value → World → Prop) (m1 : List Value → World → Nat), I1 [] w ∧
 ∀ (e1 : Nat → Value) w1, I1 [] w1 → (fun w =>
 (fun w =>
 (fun (k0 : Value → World → Prop) =>
 oa pr w (sLoad 82 a1) fun t3 =>
 oz pr (sNil t3) fun t4 =>
 oz pr (sFA 87 t4 2) fun t5 =>
 oa pr w (sLoad 3 t5) fun t6 =>
 oa pr w (sLoad 82 a1) fun t7 =>
 oz pr (sNil t7) fun t8 =>
 oz pr (sFA 87 t8 0) fun t9 =>
 oa pr w (sLoad 9 t9) fun t10 =>
 oz pr (sB .len [9] 3 [t10]) fun t11 =>
 oz pr (sBin .lss 3 t6 t11 3) fun t12 =>
 condG t12 true (oa pr w (sLoad 82 a1) fun t15 =>
 oz pr (sNil t15) fun t16 =>
 oz pr (sFA 87 t16 0) fun t17 =>
 oa pr w (sLoad 9 t17) fun t18 =>
 oa pr w (sLoad 82 a1) fun t19 =>
 oz pr (sNil t19) fun t20 =>
 oz pr (sFA 87 t20 2) fun t21 =>
 oa pr w (sLoad 3 t21) fun t22 =>
 oz pr (sIdx 9 t18 t22) fun t23 =>
 o pr E w (sCall a0 [t23]) fun t24 w =>
 oz pr (sPick t12 t24 (Value.bool false)) fun t25_1 =>
 k0 t25_1 w)
  (oz pr (sPick t12 undef (Value.bool false)) fun t25_2 =>
 k0 t25_2 w))
 (fun t25 w =>
 condP t25 (o pr E w (sLoad 82 a1) fun t26 w =>
 o pr E w (sNil t26) fun t27 w =>
 o pr E w (sFA 87 t27 2) fun t28 w =>
 o pr E w (sLoad 3 t28) fun t29 w =>
 o pr E w (sBinC .add 3 t29 (Value.int IntKind.i64 1) 3) fun t30 w =>
 o pr E w (sNil t26) fun t31 w =>
 o pr E w (sFA 87 t31 2) fun t32 w =>
 o pr E w (sStore 3 t32 t30) fun _ w =>
 I1 [] w ∧ m1 [] w < m1 [] w1)
  (K (.tuple #[]) w))) (dr w)) w1
def lv_rd_next_1 : Lives := [(0, [0, 1]), (1, [0, 1])]
theorem sh_rd_next_1_ok (a0 a1 : Value) (w : World) (R : Ending → World → Prop)
 (h : sh_rd_next_1 (fun v w => R (.returned v) w) (fun c w => R (.panicked c) w) a0 a1 w) : Calls pr n_rd_next_1 #[a0, a1] w R :=
 calls_of_W (A := lv_rd_next_1) enters mixed Go.Proofs.Tryz.func36 (by kernel_rfl) (by kernel_rfl) (by kernel_rfl)
  (Eq.mp (by kernel_rfl) h)
def sh_text_letter (K : Value → World → Prop) (E : PanicK) (a0 : Value) (w : World) : Prop :=
 (fun (k1 : Value → World → Prop) =>
 o pr E w (sBinL .leq 5 (Value.int IntKind.u8 97) a0 5) fun t4 w =>
 condG t4 true (o pr E w (sBinC .leq 5 a0 (Value.int IntKind.u8 122) 5) fun t7 w =>
 o pr E w (sPick t4 t7 (Value.bool false)) fun t8 w =>
 k1 t8 w)
  (o pr E w (sPick t4 undef (Value.bool false)) fun t8_1 w =>
 k1 t8_1 w))
 (fun t2 w =>
 K t2 w)
def lv_text_letter : Lives := [(1, [0])]
theorem sh_text_letter_ok (a0 : Value) (w : World) (R : Ending → World → Prop)
 (h : sh_text_letter (fun v w => R (.returned v) w) (fun c w => R (.panicked c) w) a0 w) : Calls pr n_text_letter #[a0] w R :=
 calls_of_W (A := lv_text_letter) enters mixed Go.Proofs.Tryz.func37 (by kernel_rfl) (by kernel_rfl) (by kernel_rfl)
  (Eq.mp (by kernel_rfl) h)
def sh_text_digit (K : Value → World → Prop) (E : PanicK) (a0 : Value) (w : World) : Prop :=
 (fun (k1 : Value → World → Prop) =>
 o pr E w (sBinL .leq 5 (Value.int IntKind.u8 48) a0 5) fun t4 w =>
 condG t4 true (o pr E w (sBinC .leq 5 a0 (Value.int IntKind.u8 57) 5) fun t7 w =>
 o pr E w (sPick t4 t7 (Value.bool false)) fun t8 w =>
 k1 t8 w)
  (o pr E w (sPick t4 undef (Value.bool false)) fun t8_1 w =>
 k1 t8_1 w))
 (fun t2 w =>
 K t2 w)
def lv_text_digit : Lives := [(1, [0])]
theorem sh_text_digit_ok (a0 : Value) (w : World) (R : Ending → World → Prop)
 (h : sh_text_digit (fun v w => R (.returned v) w) (fun c w => R (.panicked c) w) a0 w) : Calls pr n_text_digit #[a0] w R :=
 calls_of_W (A := lv_text_digit) enters mixed Go.Proofs.Tryz.func38 (by kernel_rfl) (by kernel_rfl) (by kernel_rfl)
  (Eq.mp (by kernel_rfl) h)
def sh_text_sign (K : Value → World → Prop) (E : PanicK) (a0 : Value) (w : World) : Prop :=
 ∃ j1 : List Value → World → Prop, (∀ (e1 : Nat → Value) w, j1 [] w →
 K (Value.int IntKind.i64 0) w) ∧
 o pr E w (sIdx 9 a0 (Value.int IntKind.i64 0)) fun t4 w =>
 ∃ j2 : List Value → World → Prop, (∀ (e2 : Nat → Value) w, j2 [e2 5] w →
 condP (e2 5) ((fun (k5 : Value → World → Prop) =>
 o pr E w (sB .len [9] 3 [a0]) fun t10 w =>
 o pr E w (sBinC .gtr 3 t10 (Value.int IntKind.i64 1) 3) fun t11 w =>
 condG t11 true (o pr E w (sIdx 9 a0 (Value.int IntKind.i64 1)) fun t14 w =>
 o pr E w (sBinC .eql 5 t14 (Value.int IntKind.u8 61) 5) fun t15 w =>
 o pr E w (sPick t11 t15 (Value.bool false)) fun t16_1 w =>
 k5 t16_1 w)
  (o pr E w (sPick t11 undef (Value.bool false)) fun t16_2 w =>
 k5 t16_2 w))
 (fun t16 w =>
 condP t16 (K (Value.int IntKind.i64 2) w)
  (K (Value.int IntKind.i64 1) w)))
  (o pr E w (sBinC .eql 5 t4 (Value.int IntKind.u8 33) 5) fun t18 w =>
 condP t18 ((fun (k9 : Value → World → Prop) =>
 o pr E w (sB .len [9] 3 [a0]) fun t20 w =>
 o pr E w (sBinC .gtr 3 t20 (Value.int IntKind.i64 1) 3) fun t21 w =>
 condG t21 true (o pr E w (sIdx 9 a0 (Value.int IntKind.i64 1)) fun t24 w =>
 o pr E w (sBinC .eql 5 t24 (Value.int IntKind.u8 61) 5) fun t25 w =>
 o pr E w (sPick t21 t25 (Value.bool false)) fun t26_1 w =>
 k9 t26_1 w)
  (o pr E w (sPick t21 undef (Value.bool false)) fun t26_2 w =>
 k9 t26_2 w))
 (fun t26 w =>
 condP t26 (K (Value.int IntKind.i64 2) w)
  (K (Value.int IntKind.i64 0) w)))
  (∃ j3 : List Value → World → Prop, (∀ (e3 : Nat → Value) w, j3 [e3 27] w →
 condP (e3 27) (K (Value.int IntKind.i64 1) w)
  (j1 [] w)) ∧
 o pr E w (sBinC .eql 5 t4 (Value.int IntKind.u8 43) 5) fun t28 w =>
 condP t28 (j3 [t28] w)
  (o pr E w (sBinC .eql 5 t4 (Value.int IntKind.u8 45) 5) fun t29 w =>
 condP t29 (j3 [t29] w)
  (o pr E w (sBinC .eql 5 t4 (Value.int IntKind.u8 42) 5) fun t30 w =>
 condP t30 (j3 [t30] w)
  (o pr E w (sBinC .eql 5 t4 (Value.int IntKind.u8 47) 5) fun t31 w =>
 condP t31 (j3 [t31] w)
  (o pr E w (sBinC .eql 5 t4 (Value.int IntKind.u8 37) 5) fun t32 w =>
 condP t32 (j3 [t32] w)
  (o pr E w (sBinC .eql 5 t4 (Value.int IntKind.u8 40) 5) fun t33 w =>
 condP t33 (j3 [t33] w)
  (o pr E w (sBinC .eql 5 t4 (Value.int IntKind.u8 41) 5) fun t34 w =>
 condP t34 (j3 [t34] w)
  (o pr E w (sBinC .eql 5 t4 (Value.int IntKind.u8 123) 5) fun t35 w =>
 condP t35 (j3 [t35] w)
  (o pr E w (sBinC .eql 5 t4 (Value.int IntKind.u8 125) 5) fun t36 w =>
 condP t36 (j3 [t36] w)
  (o pr E w (sBinC .eql 5 t4 (Value.int IntKind.u8 59) 5) fun t37 w =>
 j3 [t37] w)))))))))))) ∧
 o pr E w (sBinC .eql 5 t4 (Value.int IntKind.u8 60) 5) fun t6 w =>
 condP t6 (j2 [t6] w)
  (o pr E w (sBinC .eql 5 t4 (Value.int IntKind.u8 62) 5) fun t7 w =>
 condP t7 (j2 [t7] w)
  (o pr E w (sBinC .eql 5 t4 (Value.int IntKind.u8 61) 5) fun t8 w =>
 j2 [t8] w))
def lv_text_sign : Lives := [(1, [0]), (2, [0, 4]), (3, [0, 4, 5]), (4, [0, 4, 5]), (5, [0, 4, 5]), (6, [16]), (7, []), (9, [0, 4, 17]), (10, [26]), (11, []), (13, [4, 27]), (14, [4, 27]), (15, [4, 27]), (16, [4, 27]), (17, [4, 27]), (18, [4, 27]), (19, [4, 27]), (20, [4, 27]), (21, [4, 27]), (22, [27]), (23, [])]
theorem sh_text_sign_ok (a0 : Value) (w : World) (R : Ending → World → Prop)
 (h : sh_text_sign (fun v w => R (.returned v) w) (fun c w => R (.panicked c) w) a0 w) : Calls pr n_text_sign #[a0] w R :=
 calls_of_W (A := lv_text_sign) enters mixed Go.Proofs.Tryz.func39 (by kernel_rfl) (by kernel_rfl) (by kernel_rfl)
  (Eq.mp (by kernel_rfl) h)
def sh_rd_kinds (K : Value → World → Prop) (E : PanicK) (a0 : Value) (w : World) : Prop :=
 o pr E w (sBox 82 a0) fun t1 w =>
 o pr E w (sMakeMap 127) fun t3 w =>
 o pr E w (sFunc (.func n_rd_kinds_1) [] [t1]) fun t4 w =>
 o pr E w (sInsert 127 t3 (Value.string (S [114, 101, 97, 100])) t4) fun _ w =>
 o pr E w (sFunc (.func n_rd_kinds_2) [] [t1]) fun t5 w =>
 o pr E w (sInsert 127 t3 (Value.string (S [97, 115, 115, 101, 114, 116])) t5) fun _ w =>
 o pr E w (sFunc (.func n_rd_kinds_3) [] [t1]) fun t6 w =>
 o pr E w (sInsert 127 t3 (Value.string (S [105, 102])) t6) fun _ w =>
 o pr E w (sFunc (.func n_rd_kinds_4) [] [t1]) fun t7 w =>
 o pr E w (sInsert 127 t3 (Value.string (S [119, 104, 105, 108, 101])) t7) fun _ w =>
 K t3 w
def lv_rd_kinds : Lives := [(1, [1])]
theorem sh_rd_kinds_ok (a0 : Value) (w : World) (R : Ending → World → Prop)
 (h : sh_rd_kinds (fun v w => R (.returned v) w) (fun c w => R (.panicked c) w) a0 w) : Calls pr n_rd_kinds #[a0] w R :=
 calls_of_W (A := lv_rd_kinds) enters mixed Go.Proofs.Tryz.func40 (by kernel_rfl) (by kernel_rfl) (by kernel_rfl)
  (Eq.mp (by kernel_rfl) h)
def sh_rd_token (K : Value → World → Prop) (_E : PanicK) (a0 : Value) (w : World) : Prop :=
 (fun w =>
 oz pr (sNil a0) fun t4 =>
 oz pr (sFA 87 t4 0) fun t5 =>
 oa pr w (sLoad 9 t5) fun t6 =>
 oz pr (sNil a0) fun t8 =>
 oz pr (sFA 87 t8 1) fun t9 =>
 oa pr w (sLoad 3 t9) fun t10 =>
 oz pr (sNil a0) fun t12 =>
 oz pr (sFA 87 t12 2) fun t13 =>
 oa pr w (sLoad 3 t13) fun t14 =>
 oz pr (sSlice 9 t6 (some t10) (some t14) none) fun t15 =>
 K t15 w) (dr w)
def lv_rd_token : Lives := [(1, [0])]
theorem sh_rd_token_ok (a0 : Value) (w : World) (R : Ending → World → Prop)
 (h : sh_rd_token (fun v w => R (.returned v) w) (fun c w => R (.panicked c) w) a0 w) : Calls pr n_rd_token #[a0] w R :=
 calls_of_W (A := lv_rd_token) enters mixed Go.Proofs.Tryz.func41 (by kernel_rfl) (by kernel_rfl) (by kernel_rfl)
  (Eq.mp (by kernel_rfl) h)
def sh_rd_variable (K : Value → World → Prop) (E : PanicK) (a0 : Value) (w : World) : Prop :=
 cl pr E w n_rd_token #[a0] fun t5 w =>
 (fun (k2 : Value → World → Prop) =>
 o pr E w (sB .len [9] 3 [t5]) fun t7 w =>
 o pr E w (sBinC .neq 3 t7 (Value.int IntKind.i64 1) 3) fun t8 w =>
 (fun (q1 : Value → World → Prop) =>
 condG t8 false (o pr E w (sIdx 9 t5 (Value.int IntKind.i64 0)) fun t11 w =>
 o pr E w (sBinC .lss 5 t11 (Value.int IntKind.u8 97) 5) fun t12 w =>
 q1 t12 w)
  (q1 undef w))
 (fun t12_1 w =>
 o pr E w (sPick t8 (Value.bool true) t12_1) fun t13 w =>
 condG t13 false (o pr E w (sIdx 9 t5 (Value.int IntKind.i64 0)) fun t16 w =>
 o pr E w (sBinC .gtr 5 t16 (Value.int IntKind.u8 104) 5) fun t17 w =>
 o pr E w (sPick t13 (Value.bool true) t17) fun t18_1 w =>
 k2 t18_1 w)
  (o pr E w (sPick t13 (Value.bool true) undef) fun t18_2 w =>
 k2 t18_2 w)))
 (fun t18 w =>
 condP t18 (K (Value.int IntKind.i64 (-1)) w)
  (o pr E w (sIdx 9 t5 (Value.int IntKind.i64 0)) fun t20 w =>
 o pr E w (sBinC .sub 5 t20 (Value.int IntKind.u8 97) 5) fun t21 w =>
 o pr E w (sConv 5 3 t21) fun t22 w =>
 K t22 w))
def lv_rd_variable : Lives := [(1, [0]), (2, [3]), (3, [3, 18]), (4, [3])]
theorem sh_rd_variable_ok (a0 : Value) (w : World) (R : Ending → World → Prop)
 (h : sh_rd_variable (fun v w => R (.returned v) w) (fun c w => R (.panicked c) w) a0 w) : Calls pr n_rd_variable #[a0] w R :=
 calls_of_W (A := lv_rd_variable) enters mixed Go.Proofs.Tryz.func42 (by kernel_rfl) (by kernel_rfl) (by kernel_rfl)
  (Eq.mp (by kernel_rfl) h)
def sh_rd_name (K : Value → World → Prop) (E : PanicK) (a0 : Value) (w : World) : Prop :=
 ∃ j1 : List Value → World → Prop, (∀ (e1 : Nat → Value) w, j1 [e1 3] w →
 cl pr E w n_rd_next #[a0] fun _ w =>
 K (e1 3) w) ∧
 cl pr E w n_rd_variable #[a0] fun t5 w =>
 o pr E w (sBinC .lss 3 t5 (Value.int IntKind.i64 0) 3) fun t7 w =>
 condP t7 (cl pr E w n_rd_leave #[a0, (Value.int IntKind.i64 2)] fun _ w =>
 j1 [t5] w)
  (j1 [t5] w)
def lv_rd_name : Lives := [(1, [0]), (2, [0, 3]), (3, [0, 3, 7]), (4, [0, 3]), (5, [3])]
theorem sh_rd_name_ok (a0 : Value) (w : World) (R : Ending → World → Prop)
 (h : sh_rd_name (fun v w => R (.returned v) w) (fun c w => R (.panicked c) w) a0 w) : Calls pr n_rd_name #[a0] w R :=
 calls_of_W (A := lv_rd_name) enters mixed Go.Proofs.Tryz.func43 (by kernel_rfl) (by kernel_rfl) (by kernel_rfl)
  (Eq.mp (by kernel_rfl) h)
def sh_rd_take (K : Value → World → Prop) (E : PanicK) (a0 a1 : Value) (w : World) : Prop :=
 ∃ j1 : List Value → World → Prop, (∀ (e1 : Nat → Value) w, j1 [] w →
 cl pr E w n_rd_next #[a0] fun _ w =>
 K (.tuple #[]) w) ∧
 cl pr E w n_rd_token #[a0] fun t5 w =>
 o pr E w (sBin .neq 9 t5 a1 9) fun t7 w =>
 condP t7 (cl pr E w n_rd_leave #[a0, (Value.int IntKind.i64 2)] fun _ w =>
 j1 [] w)
  (j1 [] w)
def lv_rd_take : Lives := [(1, [0, 7]), (2, [0])]
theorem sh_rd_take_ok (a0 a1 : Value) (w : World) (R : Ending → World → Prop)
 (h : sh_rd_take (fun v w => R (.returned v) w) (fun c w => R (.panicked c) w) a0 a1 w) : Calls pr n_rd_take #[a0, a1] w R :=
 calls_of_W (A := lv_rd_take) enters mixed Go.Proofs.Tryz.func44 (by kernel_rfl) (by kernel_rfl) (by kernel_rfl)
  (Eq.mp (by kernel_rfl) h)
def sh_rd_sum (K : Value → World → Prop) (E : PanicK) (a0 : Value) (w : World) : Prop :=
 o pr E w (sFunc (.func n_rd_product) [a0] []) fun t5 w =>
 cl pr E w n_rd_chain #[a0, (Value.string (S [43, 45])), t5] fun t6 w =>
 K t6 w
def lv_rd_sum : Lives := [(1, [0])]
theorem sh_rd_sum_ok (a0 : Value) (w : World) (R : Ending → World → Prop)
 (h : sh_rd_sum (fun v w => R (.returned v) w) (fun c w => R (.panicked c) w) a0 w) : Calls pr n_rd_sum #[a0] w R :=
 calls_of_W (A := lv_rd_sum) enters mixed Go.Proofs.Tryz.func45 (by kernel_rfl) (by kernel_rfl) (by kernel_rfl)
  (Eq.mp (by kernel_rfl) h)
def sh_rd_kinds_1 (K : Value → World → Prop) (E : PanicK) (a0 a1 : Value) (w : World) : Prop :=
 o pr E w (sBox 133 a0) fun t2 w =>
 (fun w =>
 oa pr w (sLoad 133 t2) fun t5 =>
 oa pr w (sLoad 82 a1) fun t6 =>
 cl pr E w n_rd_name #[t6] fun t7 w =>
 rk pr w (sLoad 133 t2) t5 ∧
 oz pr (sBuild 146 [(0, t5), (1, t7)]) fun t8 =>
 o pr E w (sBox 146 t8) fun t9 w =>
 o pr E w (sLoad 82 a1) fun t10 w =>
 cl pr E w n_rd_take #[t10, (Value.string (S [59]))] fun _ w =>
 o pr E w (sIface 144 t9) fun t13 w =>
 K t13 w) (dr w)
def lv_rd_kinds_1 : Lives := [(1, [1, 2]), (2, [1, 4]), (3, [4])]
theorem sh_rd_kinds_1_ok (a0 a1 : Value) (w : World) (R : Ending → World → Prop)
 (h : sh_rd_kinds_1 (fun v w => R (.returned v) w) (fun c w => R (.panicked c) w) a0 a1 w) : Calls pr n_rd_kinds_1 #[a0, a1] w R :=
 calls_of_W (A := lv_rd_kinds_1) enters mixed Go.Proofs.Tryz.func56 (by kernel_rfl) (by kernel_rfl) (by kernel_rfl)
  (Eq.mp (by kernel_rfl) h)
def sh_rd_kinds_2 (K : Value → World → Prop) (E : PanicK) (a0 a1 : Value) (w : World) : Prop :=
 o pr E w (sBox 133 a0) fun t2 w =>
 (fun w =>
 oa pr w (sLoad 133 t2) fun t5 =>
 oa pr w (sLoad 82 a1) fun t6 =>
 oz pr (sNil t6) fun t7 =>
 oz pr (sFA 87 t7 4) fun t8 =>
 oa pr w (sLoad 66 t8) fun t9 =>
 oz pr (sNil t9) fun t10 =>
 oz pr (sFA 85 t10 2) fun t11 =>
 oa pr w (sLoad 3 t11) fun t12 =>
 oz pr (sBuild 153 [(0, t5), (2, t12)]) fun t13 =>
 o pr E w (sBox 153 t13) fun t14 w =>
 o pr E w (sLoad 82 a1) fun t15 w =>
 o pr E w (sNil t15) fun t16 w =>
 o pr E w (sFA 87 t16 4) fun t17 w =>
 o pr E w (sLoad 66 t17) fun t18 w =>
 o pr E w (sNil t18) fun t19 w =>
 o pr E w (sFA 85 t19 2) fun t20 w =>
 o pr E w (sLoad 3 t20) fun t21 w =>
 o pr E w (sBinC .add 3 t21 (Value.int IntKind.i64 1) 3) fun t22 w =>
 o pr E w (sNil t18) fun t23 w =>
 o pr E w (sFA 85 t23 2) fun t24 w =>
 o pr E w (sStore 3 t24 t22) fun _ w =>
 o pr E w (sLoad 82 a1) fun t26 w =>
 cl pr E w n_rd_cond #[t26] fun t27 w =>
 o pr E w (sNil t14) fun t28 w =>
 o pr E w (sFA 153 t28 1) fun t29 w =>
 o pr E w (sStore 151 t29 t27) fun _ w =>
 o pr E w (sLoad 82 a1) fun t30 w =>
 cl pr E w n_rd_take #[t30, (Value.string (S [59]))] fun _ w =>
 o pr E w (sIface 147 t14) fun t33 w =>
 K t33 w) (dr w)
def lv_rd_kinds_2 : Lives := [(1, [1, 2]), (2, [1, 4]), (3, [1, 4]), (4, [1, 4]), (5, [4])]
theorem sh_rd_kinds_2_ok (a0 a1 : Value) (w : World) (R : Ending → World → Prop)
 (h : sh_rd_kinds_2 (fun v w => R (.returned v) w) (fun c w => R (.panicked c) w) a0 a1 w) : Calls pr n_rd_kinds_2 #[a0, a1] w R :=
 calls_of_W (A := lv_rd_kinds_2) enters mixed Go.Proofs.Tryz.func57 (by kernel_rfl) (by kernel_rfl) (by kernel_rfl)
  (Eq.mp (by kernel_rfl) h)
def sh_rd_cond (K : Value → World → Prop) (E : PanicK) (a0 : Value) (w : World) : Prop :=
 o pr E w (sAlloc 151) fun t2 w =>
 cl pr E w n_rd_sum #[a0] fun t5 w =>
 o pr E w (sBuild 151 [(0, t5)]) fun t6 w =>
 o pr E w (sAlloc 151) fun t3 w =>
 o pr E w (sStore 151 t3 t6) fun _ w =>
 ∃ j1 : List Value → World → Prop, (∀ (e1 : Nat → Value) w, j1 [] w →
 cl pr E w n_rd_next #[a0] fun _ w =>
 cl pr E w n_rd_sum #[a0] fun t19 w =>
 o pr E w (sFA 151 t3 1) fun t20 w =>
 o pr E w (sStore 138 t20 t19) fun _ w =>
 o pr E w (sLoad 151 t3) fun t21 w =>
 o pr E w (sStore 151 t2 t21) fun _ w =>
 rs pr w t2 151 fun v0_0 =>
 K v0_0 w) ∧
 cl pr E w n_rd_token #[a0] fun t8 w =>
 cl pr E w n_tree_RelOf #[t8] fun t9 w =>
 o pr E w (sFA 151 t3 2) fun t10 w =>
 o pr E w (sStore 149 t10 t9) fun _ w =>
 o pr E w (sFA 151 t3 2) fun t11 w =>
 o pr E w (sLoad 149 t11) fun t12 w =>
 o pr E w (sBinC .lss 149 t12 (Value.int IntKind.i64 0) 149) fun t13 w =>
 condP t13 (cl pr E w n_rd_leave #[a0, (Value.int IntKind.i64 2)] fun _ w =>
 j1 [] w)
  (j1 [] w)
def lv_rd_cond : Lives := [(1, [0, 2]), (2, [0, 2, 3]), (3, [0, 2, 3]), (4, [0, 2, 3, 13]), (5, [0, 2, 3]), (6, [0, 2, 3]), (7, [2, 3])]
theorem sh_rd_cond_ok (a0 : Value) (w : World) (R : Ending → World → Prop)
 (h : sh_rd_cond (fun v w => R (.returned v) w) (fun c w => R (.panicked c) w) a0 w) : Calls pr n_rd_cond #[a0] w R :=
 calls_of_W (A := lv_rd_cond) enters mixed Go.Proofs.Tryz.func58 (by kernel_rfl) (by kernel_rfl) (by kernel_rfl)
  (Eq.mp (by kernel_rfl) h)
def sh_rd_kinds_3 (K : Value → World → Prop) (E : PanicK) (a0 a1 : Value) (w : World) : Prop :=
 o pr E w (sBox 133 a0) fun t2 w =>
 (fun w =>
 oa pr w (sLoad 133 t2) fun t5 =>
 oa pr w (sLoad 82 a1) fun t6 =>
 cl pr E w n_rd_cond #[t6] fun t7 w =>
 rk pr w (sLoad 133 t2) t5 ∧
 oz pr (sBuild 156 [(0, t5), (1, t7)]) fun t8 =>
 o pr E w (sBox 156 t8) fun t9 w =>
 ∃ j1 : List Value → World → Prop, (∀ (e1 : Nat → Value) w, j1 [] w →
 o pr E w (sIface 154 t9) fun t29 w =>
 K t29 w) ∧
 o pr E w (sLoad 82 a1) fun t11 w =>
 cl pr E w n_rd_block #[t11] fun t12 w =>
 o pr E w (sNil t9) fun t13 w =>
 o pr E w (sFA 156 t13 2) fun t14 w =>
 o pr E w (sStore 83 t14 t12) fun _ w =>
 o pr E w (sLoad 82 a1) fun t15 w =>
 cl pr E w n_rd_token #[t15] fun t16 w =>
 o pr E w (sBinC .eql 9 t16 (Value.string (S [101, 108, 115, 101])) 9) fun t17 w =>
 condP t17 (o pr E w (sLoad 82 a1) fun t18 w =>
 cl pr E w n_rd_next #[t18] fun _ w =>
 o pr E w (sLoad 82 a1) fun t22 w =>
 cl pr E w n_rd_block #[t22] fun t23 w =>
 o pr E w (sNil t9) fun t24 w =>
 o pr E w (sFA 156 t24 3) fun t25 w =>
 o pr E w (sStore 83 t25 t23) fun _ w =>
 o pr E w (sNil t9) fun t26 w =>
 o pr E w (sFA 156 t26 4) fun t27 w =>
 o pr E w (sStore 4 t27 (Value.bool true)) fun _ w =>
 j1 [] w)
  (j1 [] w)) (dr w)
def lv_rd_kinds_3 : Lives := [(1, [1, 2]), (2, [1, 4]), (3, [1, 4]), (4, [1, 4, 17]), (5, [1, 4]), (6, [4])]
theorem sh_rd_kinds_3_ok (a0 a1 : Value) (w : World) (R : Ending → World → Prop)
 (h : sh_rd_kinds_3 (fun v w => R (.returned v) w) (fun c w => R (.panicked c) w) a0 a1 w) : Calls pr n_rd_kinds_3 #[a0, a1] w R :=
 calls_of_W (A := lv_rd_kinds_3) enters mixed Go.Proofs.Tryz.func59 (by kernel_rfl) (by kernel_rfl) (by kernel_rfl)
  (Eq.mp (by kernel_rfl) h)
def sh_rd_block (K : Value → World → Prop) (E : PanicK) (a0 : Value) (w : World) : Prop :=
 o pr E w (sFunc (.func n_rd_statements) [a0] []) fun t6 w =>
 cl pr E w n_text_within_tree_Statement #[a0, (Value.string (S [123])), t6] fun t7 w =>
 cl pr E w n_rd_take #[a0, (Value.string (S [125]))] fun _ w =>
 K t7 w
def lv_rd_block : Lives := [(1, [0]), (2, [0, 3]), (3, [3])]
theorem sh_rd_block_ok (a0 : Value) (w : World) (R : Ending → World → Prop)
 (h : sh_rd_block (fun v w => R (.returned v) w) (fun c w => R (.panicked c) w) a0 w) : Calls pr n_rd_block #[a0] w R :=
 calls_of_W (A := lv_rd_block) enters mixed Go.Proofs.Tryz.func60 (by kernel_rfl) (by kernel_rfl) (by kernel_rfl)
  (Eq.mp (by kernel_rfl) h)
def sh_rd_kinds_4 (K : Value → World → Prop) (E : PanicK) (a0 a1 : Value) (w : World) : Prop :=
 o pr E w (sBox 133 a0) fun t2 w =>
 (fun w =>
 oa pr w (sLoad 133 t2) fun t5 =>
 oa pr w (sLoad 82 a1) fun t6 =>
 cl pr E w n_rd_cond #[t6] fun t7 w =>
 rk pr w (sLoad 133 t2) t5 ∧
 oz pr (sBuild 159 [(0, t5), (1, t7)]) fun t8 =>
 o pr E w (sBox 159 t8) fun t9 w =>
 o pr E w (sLoad 82 a1) fun t11 w =>
 cl pr E w n_rd_block #[t11] fun t12 w =>
 o pr E w (sNil t9) fun t13 w =>
 o pr E w (sFA 159 t13 2) fun t14 w =>
 o pr E w (sStore 83 t14 t12) fun _ w =>
 o pr E w (sIface 157 t9) fun t16 w =>
 K t16 w) (dr w)
def lv_rd_kinds_4 : Lives := [(1, [1, 2]), (2, [1, 4]), (3, [4])]
theorem sh_rd_kinds_4_ok (a0 a1 : Value) (w : World) (R : Ending → World → Prop)
 (h : sh_rd_kinds_4 (fun v w => R (.returned v) w) (fun c w => R (.panicked c) w) a0 a1 w) : Calls pr n_rd_kinds_4 #[a0, a1] w R :=
 calls_of_W (A := lv_rd_kinds_4) enters mixed Go.Proofs.Tryz.func61 (by kernel_rfl) (by kernel_rfl) (by kernel_rfl)
  (Eq.mp (by kernel_rfl) h)
def sh_rd_chain (K : Value → World → Prop) (E : PanicK) (a0 a1 a2 : Value) (w : World) : Prop :=
 ∃ (I1 : List Value → World → Prop) (m1 : List Value → World → Nat), (∀ (e1 : Nat → Value) w1, I1 [e1 6, e1 7] w1 → (fun w =>
 cl pr E w n_rd_token #[a0] fun t14 w =>
 o pr E w (sB .len [9] 3 [a1]) fun t16 w =>
 ∃ (I2 : List Value → World → Prop) (m2 : List Value → World → Nat), I2 [(e1 7), (Value.int IntKind.i64 0)] w ∧
 ∀ (e2 : Nat → Value) w2, I2 [e2 7, e2 17] w2 → (fun w =>
 o pr E w (sBin .lss 3 (e2 17) t16 3) fun t18 w =>
 condP t18 (o pr E w (sBinC .add 3 (e2 17) (Value.int IntKind.i64 1) 3) fun t24 w =>
 o pr E w (sSlice 9 a1 (some (e2 17)) (some t24) none) fun t25 w =>
 o pr E w (sBin .eql 9 t14 t25 9) fun t26 w =>
 condP t26 (∃ j3 : List Value → World → Prop, (∀ (e3 : Nat → Value) w, j3 [e3 10] w →
 cl pr E w n_rd_next #[a0] fun _ w =>
 (fun w =>
 oz pr (sIdx 9 t14 (Value.int IntKind.i64 0)) fun t53 =>
 o pr E w (sCall a2 []) fun t56 w =>
 oz pr (sBuild 209 [(0, t53), (1, (e2 7)), (2, t56), (3, (e3 10))]) fun t58 =>
 o pr E w (sBox 209 t58) fun t59 w =>
 oz pr (sIface 207 t59) fun t60 =>
 0 = 0 ∧ I1 [(e1 6), t60] w ∧ m1 [(e1 6), t60] w < m1 [e1 6, e1 7] w1) (dr w)) ∧
 (fun (k8 : Value → World → Prop) =>
 o pr E w (sBinC .eql 9 t14 (Value.string (S [47])) 9) fun t28 w =>
 condG t28 false (o pr E w (sBinC .eql 9 t14 (Value.string (S [37])) 9) fun t31 w =>
 o pr E w (sPick t28 (Value.bool true) t31) fun t32_1 w =>
 k8 t32_1 w)
  (o pr E w (sPick t28 (Value.bool true) undef) fun t32_2 w =>
 k8 t32_2 w))
 (fun t32 w =>
 condP t32 (o pr E w (sNil a0) fun t34 w =>
 o pr E w (sFA 87 t34 4) fun t35 w =>
 o pr E w (sLoad 66 t35) fun t36 w =>
 o pr E w (sNil t36) fun t37 w =>
 o pr E w (sFA 85 t37 2) fun t38 w =>
 o pr E w (sLoad 3 t38) fun t39 w =>
 o pr E w (sNil a0) fun t41 w =>
 o pr E w (sFA 87 t41 4) fun t42 w =>
 o pr E w (sLoad 66 t42) fun t43 w =>
 o pr E w (sNil t43) fun t44 w =>
 o pr E w (sFA 85 t44 2) fun t45 w =>
 o pr E w (sLoad 3 t45) fun t46 w =>
 o pr E w (sBinC .add 3 t46 (Value.int IntKind.i64 1) 3) fun t47 w =>
 o pr E w (sNil t43) fun t48 w =>
 o pr E w (sFA 85 t48 2) fun t49 w =>
 o pr E w (sStore 3 t49 t47) fun _ w =>
 j3 [t39] w)
  (j3 [(Value.int IntKind.i64 (-1))] w)))
  (o pr E w (sBinC .add 3 (e2 17) (Value.int IntKind.i64 1) 3) fun t61 w =>
 I2 [(e2 7), t61] w ∧ m2 [(e2 7), t61] w < m2 [e2 7, e2 17] w2))
  (K (e2 7) w)) w2) w1) ∧
 o pr E w (sCall a2 []) fun t12 w =>
 I1 [(Value.nilIface), t12] w
def lv_rd_chain : Lives := [(1, [0, 1, 2, 6]), (2, [0, 1, 2, 6, 7]), (3, [0, 1, 2, 6, 7, 8]), (4, [0, 1, 2, 6, 7, 8, 16, 17]), (5, [0, 1, 2, 6, 7, 8, 16, 17, 18]), (6, [0, 1, 2, 6, 7, 8, 9, 16, 17]), (7, [0, 1, 2, 6, 7, 8, 16, 17, 26]), (8, [0, 1, 2, 6, 7, 8, 10]), (9, [0, 1, 2, 6, 7, 8, 10, 32]), (10, [0, 1, 2, 6, 7, 8, 10]), (11, [0, 1, 2, 6, 7, 8, 10]), (12, [0, 1, 2, 6, 7, 8, 10]), (13, [0, 1, 2, 6, 7, 8, 16, 17]), (14, [7])]
theorem sh_rd_chain_ok (a0 a1 a2 : Value) (w : World) (R : Ending → World → Prop)
 (h : sh_rd_chain (fun v w => R (.returned v) w) (fun c w => R (.panicked c) w) a0 a1 a2 w) : Calls pr n_rd_chain #[a0, a1, a2] w R :=
 calls_of_W (A := lv_rd_chain) enters mixed Go.Proofs.Tryz.func62 (by kernel_rfl) (by kernel_rfl) (by kernel_rfl)
  (Eq.mp (by kernel_rfl) h)
def sh_rd_product (K : Value → World → Prop) (E : PanicK) (a0 : Value) (w : World) : Prop :=
 o pr E w (sFunc (.func n_rd_unary) [a0] []) fun t5 w =>
 cl pr E w n_rd_chain #[a0, (Value.string (S [42, 47, 37])), t5] fun t6 w =>
 K t6 w
def lv_rd_product : Lives := [(1, [0])]
theorem sh_rd_product_ok (a0 : Value) (w : World) (R : Ending → World → Prop)
 (h : sh_rd_product (fun v w => R (.returned v) w) (fun c w => R (.panicked c) w) a0 w) : Calls pr n_rd_product #[a0] w R :=
 calls_of_W (A := lv_rd_product) enters mixed Go.Proofs.Tryz.func63 (by kernel_rfl) (by kernel_rfl) (by kernel_rfl)
  (Eq.mp (by kernel_rfl) h)
def sh_tree_RelOf (K : Value → World → Prop) (E : PanicK) (a0 : Value) (w : World) : Prop :=
 o pr E w (sLoad 253 (G 1)) fun t5 w =>
 ∃ (I1 : List Value → World → Prop) (m1 : List Value → World → Nat), I1 [(Value.int IntKind.i64 0)] w ∧
 ∀ (e1 : Nat → Value) w1, I1 [e1 6] w1 → (fun w =>
 o pr E w (sBinC .lss 3 (e1 6) (Value.int IntKind.i64 6) 3) fun t7 w =>
 condP t7 (o pr E w (sIdx 253 t5 (e1 6)) fun t9 w =>
 o pr E w (sBin .eql 9 a0 t9 9) fun t12 w =>
 condP t12 (K (e1 6) w)
  (o pr E w (sBinC .add 3 (e1 6) (Value.int IntKind.i64 1) 3) fun t14 w =>
 I1 [t14] w ∧ m1 [t14] w < m1 [e1 6] w1))
  (K (Value.int IntKind.i64 (-1)) w)) w1
def lv_tree_RelOf : Lives := [(1, [0]), (2, [0, 5, 6]), (3, [0, 5, 6, 7]), (4, [0, 3, 4, 5, 6]), (5, [0, 3, 5, 6, 12]), (6, [0, 5, 6]), (7, [])]
theorem sh_tree_RelOf_ok (a0 : Value) (w : World) (R : Ending → World → Prop)
 (h : sh_tree_RelOf (fun v w => R (.returned v) w) (fun c w => R (.panicked c) w) a0 w) : Calls pr n_tree_RelOf #[a0] w R :=
 calls_of_W (A := lv_tree_RelOf) enters mixed Go.Proofs.Tryz.func75 (by kernel_rfl) (by kernel_rfl) (by kernel_rfl)
  (Eq.mp (by kernel_rfl) h)
def sh_text_within_tree_Statement (K : Value → World → Prop) (E : PanicK) (a0 a1 a2 : Value) (w : World) : Prop :=
 ∃ j1 : List Value → World → Prop, (∀ (e1 : Nat → Value) w, j1 [] w →
 cl pr E w n_rd_take #[a0, a1] fun _ w =>
 o pr E w (sNil a0) fun t25 w =>
 o pr E w (sFA 87 t25 3) fun t26 w =>
 o pr E w (sLoad 3 t26) fun t27 w =>
 o pr E w (sBinC .add 3 t27 (Value.int IntKind.i64 1) 3) fun t28 w =>
 o pr E w (sNil a0) fun t29 w =>
 o pr E w (sFA 87 t29 3) fun t30 w =>
 o pr E w (sStore 3 t30 t28) fun _ w =>
 o pr E w (sCall a2 []) fun t32 w =>
 o pr E w (sNil a0) fun t34 w =>
 o pr E w (sFA 87 t34 3) fun t35 w =>
 o pr E w (sLoad 3 t35) fun t36 w =>
 o pr E w (sBinC .sub 3 t36 (Value.int IntKind.i64 1) 3) fun t37 w =>
 o pr E w (sNil a0) fun t38 w =>
 o pr E w (sFA 87 t38 3) fun t39 w =>
 o pr E w (sStore 3 t39 t37) fun _ w =>
 K t32 w) ∧
 (fun (k1 : Value → World → Prop) =>
 cl pr E w n_rd_token #[a0] fun t9 w =>
 o pr E w (sBin .eql 9 t9 a1 9) fun t11 w =>
 condG t11 true (o pr E w (sNil a0) fun t14 w =>
 o pr E w (sFA 87 t14 3) fun t15 w =>
 o pr E w (sLoad 3 t15) fun t16 w =>
 o pr E w (sBinC .eql 3 t16 (Value.int IntKind.i64 12) 3) fun t17 w =>
 o pr E w (sPick t11 t17 (Value.bool false)) fun t18_1 w =>
 k1 t18_1 w)
  (o pr E w (sPick t11 undef (Value.bool false)) fun t18_2 w =>
 k1 t18_2 w))
 (fun t18 w =>
 condP t18 (cl pr E w n_rd_leave #[a0, (Value.int IntKind.i64 3)] fun _ w =>
 j1 [] w)
  (j1 [] w))
def lv_text_within_tree_Statement : Lives := [(1, [0, 1, 2]), (2, [0, 1, 2, 18]), (3, [0, 1, 2]), (4, [0, 2]), (5, [0, 2]), (6, [0, 7]), (7, [7])]
theorem sh_text_within_tree_Statement_ok (a0 a1 a2 : Value) (w : World) (R : Ending → World → Prop)
 (h : sh_text_within_tree_Statement (fun v w => R (.returned v) w) (fun c w => R (.panicked c) w) a0 a1 a2 w) : Calls pr n_text_within_tree_Statement #[a0, a1, a2] w R :=
 calls_of_W (A := lv_text_within_tree_Statement) enters mixed Go.Proofs.Tryz.func76 (by kernel_rfl) (by kernel_rfl) (by kernel_rfl)
  (Eq.mp (by kernel_rfl) h)
def sh_rd_unary (K : Value → World → Prop) (E : PanicK) (a0 : Value) (w : World) : Prop :=
 o pr E w (sBox 82 a0) fun t1 w =>
 o pr E w (sLoad 82 t1) fun t6 w =>
 cl pr E w n_rd_token #[t6] fun t7 w =>
 o pr E w (sBinC .eql 9 t7 (Value.string (S [45])) 9) fun t9 w =>
 condP t9 (o pr E w (sLoad 82 t1) fun t10 w =>
 o pr E w (sFunc (.func n_rd_unary_1) [] [t1]) fun t11 w =>
 cl pr E w n_text_within_Sum #[t10, (Value.string (S [45])), t11] fun t12 w =>
 K t12 w)
  (o pr E w (sBinC .eql 9 t7 (Value.string (S [40])) 9) fun t14 w =>
 condP t14 (o pr E w (sLoad 82 t1) fun t15 w =>
 o pr E w (sLoad 82 t1) fun t16 w =>
 o pr E w (sFunc (.func n_rd_sum) [t16] []) fun t17 w =>
 cl pr E w n_text_within_Sum #[t15, (Value.string (S [40])), t17] fun t18 w =>
 o pr E w (sLoad 82 t1) fun t19 w =>
 cl pr E w n_rd_take #[t19, (Value.string (S [41]))] fun _ w =>
 K t18 w)
  (o pr E w (sLoad 82 t1) fun t22 w =>
 cl pr E w n_rd_variable #[t22] fun t23 w =>
 o pr E w (sBinC .geq 3 t23 (Value.int IntKind.i64 0) 3) fun t25 w =>
 condP t25 (o pr E w (sLoad 82 t1) fun t26 w =>
 cl pr E w n_rd_next #[t26] fun _ w =>
 o pr E w (sBuild 203 [(0, t23)]) fun t29 w =>
 o pr E w (sBox 203 t29) fun t30 w =>
 o pr E w (sIface 201 t30) fun t31 w =>
 K t31 w)
  (∃ j1 : List Value → World → Prop, (∀ (e1 : Nat → Value) w, j1 [e1 5] w →
 o pr E w (sLoad 82 t1) fun t38 w =>
 cl pr E w n_rd_next #[t38] fun _ w =>
 (fun w =>
 oa pr w (sLoad 82 t1) fun t40 =>
 oz pr (sNil t40) fun t41 =>
 oz pr (sFA 87 t41 4) fun t42 =>
 oa pr w (sLoad 66 t42) fun t43 =>
 oa pr w (sLoad 82 t1) fun t44 =>
 oz pr (sNil t44) fun t45 =>
 oz pr (sFA 87 t45 4) fun t46 =>
 oa pr w (sLoad 66 t46) fun t47 =>
 oz pr (sNil t47) fun t48 =>
 oz pr (sFA 85 t48 3) fun t49 =>
 oa pr w (sLoad 22 t49) fun t50 =>
 o pr E w (sBuildSlice 22 1 [(0, (e1 5))]) fun t52 w =>
 rk pr w (sLoad 22 t49) t50 ∧
 rk pr w (sLoad 66 t46) t47 ∧
 rk pr w (sLoad 82 t1) t44 ∧
 rk pr w (sLoad 66 t42) t43 ∧
 rk pr w (sLoad 82 t1) t40 ∧
 o pr E w (sB .append [22, 22] 22 [t50, t52]) fun t53 w =>
 rk pr w (sLoad 66 t42) t43 ∧
 rk pr w (sLoad 82 t1) t40 ∧
 oz pr (sNil t43) fun t54 =>
 oz pr (sFA 85 t54 3) fun t55 =>
 o pr E w (sStore 22 t55 t53) fun _ w =>
 o pr E w (sConv 3 55 (e1 5)) fun t57 w =>
 o pr E w (sBuild 200 [(0, t57)]) fun t58 w =>
 o pr E w (sBox 200 t58) fun t59 w =>
 o pr E w (sIface 198 t59) fun t60 w =>
 K t60 w) (dr w)) ∧
 o pr E w (sLoad 82 t1) fun t32 w =>
 cl pr E w n_rd_number #[t32] fun t33 w =>
 o pr E w (sBinC .lss 3 t33 (Value.int IntKind.i64 0) 3) fun t35 w =>
 condP t35 (o pr E w (sLoad 82 t1) fun t36 w =>
 cl pr E w n_rd_leave #[t36, (Value.int IntKind.i64 2)] fun _ w =>
 j1 [t33] w)
  (j1 [t33] w))))
def lv_rd_unary : Lives := [(1, [1]), (2, [1, 7]), (3, [1, 7, 8]), (5, [1, 13]), (6, [1, 3]), (7, [3]), (8, [1]), (9, [1, 4]), (10, [1, 4, 25]), (11, [4]), (12, [1]), (13, [1, 5]), (14, [1, 5, 35]), (15, [1, 5]), (16, [1, 5]), (17, [5])]
theorem sh_rd_unary_ok (a0 : Value) (w : World) (R : Ending → World → Prop)
 (h : sh_rd_unary (fun v w => R (.returned v) w) (fun c w => R (.panicked c) w) a0 w) : Calls pr n_rd_unary #[a0] w R :=
 calls_of_W (A := lv_rd_unary) enters mixed Go.Proofs.Tryz.func77 (by kernel_rfl) (by kernel_rfl) (by kernel_rfl)
  (Eq.mp (by kernel_rfl) h)
def sh_text_within_Sum (K : Value → World → Prop) (E : PanicK) (a0 a1 a2 : Value) (w : World) : Prop :=
 ∃ j1 : List Value → World → Prop, (∀ (e1 : Nat → Value) w, j1 [] w →
 cl pr E w n_rd_take #[a0, a1] fun _ w =>
 o pr E w (sNil a0) fun t25 w =>
 o pr E w (sFA 87 t25 3) fun t26 w =>
 o pr E w (sLoad 3 t26) fun t27 w =>
 o pr E w (sBinC .add 3 t27 (Value.int IntKind.i64 1) 3) fun t28 w =>
 o pr E w (sNil a0) fun t29 w =>
 o pr E w (sFA 87 t29 3) fun t30 w =>
 o pr E w (sStore 3 t30 t28) fun _ w =>
 o pr E w (sCall a2 []) fun t32 w =>
 o pr E w (sNil a0) fun t34 w =>
 o pr E w (sFA 87 t34 3) fun t35 w =>
 o pr E w (sLoad 3 t35) fun t36 w =>
 o pr E w (sBinC .sub 3 t36 (Value.int IntKind.i64 1) 3) fun t37 w =>
 o pr E w (sNil a0) fun t38 w =>
 o pr E w (sFA 87 t38 3) fun t39 w =>
 o pr E w (sStore 3 t39 t37) fun _ w =>
 K t32 w) ∧
 (fun (k1 : Value → World → Prop) =>
 cl pr E w n_rd_token #[a0] fun t9 w =>
 o pr E w (sBin .eql 9 t9 a1 9) fun t11 w =>
 condG t11 true (o pr E w (sNil a0) fun t14 w =>
 o pr E w (sFA 87 t14 3) fun t15 w =>
 o pr E w (sLoad 3 t15) fun t16 w =>
 o pr E w (sBinC .eql 3 t16 (Value.int IntKind.i64 12) 3) fun t17 w =>
 o pr E w (sPick t11 t17 (Value.bool false)) fun t18_1 w =>
 k1 t18_1 w)
  (o pr E w (sPick t11 undef (Value.bool false)) fun t18_2 w =>
 k1 t18_2 w))
 (fun t18 w =>
 condP t18 (cl pr E w n_rd_leave #[a0, (Value.int IntKind.i64 3)] fun _ w =>
 j1 [] w)
  (j1 [] w))
def lv_text_within_Sum : Lives := [(1, [0, 1, 2]), (2, [0, 1, 2, 18]), (3, [0, 1, 2]), (4, [0, 2]), (5, [0, 2]), (6, [0, 7]), (7, [7])]
theorem sh_text_within_Sum_ok (a0 a1 a2 : Value) (w : World) (R : Ending → World → Prop)
 (h : sh_text_within_Sum (fun v w => R (.returned v) w) (fun c w => R (.panicked c) w) a0 a1 a2 w) : Calls pr n_text_within_Sum #[a0, a1, a2] w R :=
 calls_of_W (A := lv_text_within_Sum) enters mixed Go.Proofs.Tryz.func83 (by kernel_rfl) (by kernel_rfl) (by kernel_rfl)
  (Eq.mp (by kernel_rfl) h)
def sh_rd_unary_1 (K : Value → World → Prop) (E : PanicK) (a0 : Value) (w : World) : Prop :=
 o pr E w (sLoad 82 a0) fun t2 w =>
 cl pr E w n_rd_unary #[t2] fun t3 w =>
 o pr E w (sBuild 206 [(0, t3)]) fun t4 w =>
 o pr E w (sBox 206 t4) fun t5 w =>
 o pr E w (sIface 204 t5) fun t6 w =>
 K t6 w
def lv_rd_unary_1 : Lives := [(1, [0])]
theorem sh_rd_unary_1_ok (a0 : Value) (w : World) (R : Ending → World → Prop)
 (h : sh_rd_unary_1 (fun v w => R (.returned v) w) (fun c w => R (.panicked c) w) a0 w) : Calls pr n_rd_unary_1 #[a0] w R :=
 calls_of_W (A := lv_rd_unary_1) enters mixed Go.Proofs.Tryz.func84 (by kernel_rfl) (by kernel_rfl) (by kernel_rfl)
  (Eq.mp (by kernel_rfl) h)
def sh_rd_number (K : Value → World → Prop) (E : PanicK) (a0 : Value) (w : World) : Prop :=
 cl pr E w n_rd_token #[a0] fun t7 w =>
 o pr E w (sB .len [9] 3 [t7]) fun t9 w =>
 ∃ (I1 : List Value → World → Prop) (m1 : List Value → World → Nat), I1 [(Value.int IntKind.i64 0), (Value.int IntKind.i64 0)] w ∧
 ∀ (e1 : Nat → Value) w1, I1 [e1 4, e1 10] w1 → (fun w =>
 o pr E w (sBin .lss 3 (e1 10) t9 3) fun t11 w =>
 condP t11 ((fun (k6 : Value → World → Prop) =>
 o pr E w (sIdx 9 t7 (e1 10)) fun t15 w =>
 cl pr E w n_text_digit #[t15] fun t16 w =>
 o pr E w (sUn .not 4 t16) fun t17 w =>
 condG t17 false (o pr E w (sBinC .gtr 3 (e1 10) (Value.int IntKind.i64 0) 3) fun t20 w =>
 (fun (q1 : Value → World → Prop) =>
 condG t20 true (o pr E w (sBinC .eql 3 (e1 4) (Value.int IntKind.i64 0) 3) fun t23 w =>
 q1 t23 w)
  (q1 undef w))
 (fun t23_1 w =>
 o pr E w (sPick t20 t23_1 (Value.bool false)) fun t24 w =>
 o pr E w (sPick t17 (Value.bool true) t24) fun t25 w =>
 condG t25 false (o pr E w (sBinC .gtr 3 (e1 4) (Value.int IntKind.i64 32767) 3) fun t28 w =>
 o pr E w (sPick t25 (Value.bool true) t28) fun t29_1 w =>
 k6 t29_1 w)
  (o pr E w (sPick t25 (Value.bool true) undef) fun t29_2 w =>
 k6 t29_2 w)))
  ((fun (q2 : Value → World → Prop) =>
 condG undef true (o pr E w (sBinC .eql 3 (e1 4) (Value.int IntKind.i64 0) 3) fun t23_2 w =>
 q2 t23_2 w)
  (q2 undef w))
 (fun _ w =>
 o pr E w (sPick t17 (Value.bool true) undef) fun t25_1 w =>
 condG t25_1 false (o pr E w (sBinC .gtr 3 (e1 4) (Value.int IntKind.i64 32767) 3) fun t28_1 w =>
 o pr E w (sPick t25_1 (Value.bool true) t28_1) fun t29_3 w =>
 k6 t29_3 w)
  (o pr E w (sPick t25_1 (Value.bool true) undef) fun t29_4 w =>
 k6 t29_4 w))))
 (fun t29 w =>
 condP t29 (K (Value.int IntKind.i64 (-1)) w)
  (o pr E w (sBinL .mul 3 (Value.int IntKind.i64 10) (e1 4) 3) fun t31 w =>
 o pr E w (sIdx 9 t7 (e1 10)) fun t34 w =>
 o pr E w (sBinC .sub 5 t34 (Value.int IntKind.u8 48) 5) fun t35 w =>
 o pr E w (sConv 5 3 t35) fun t36 w =>
 o pr E w (sBin .add 3 t31 t36 3) fun t37 w =>
 o pr E w (sBinC .add 3 (e1 10) (Value.int IntKind.i64 1) 3) fun t38 w =>
 I1 [t37, t38] w ∧ m1 [t37, t38] w < m1 [e1 4, e1 10] w1)))
  ((fun (k10 : Value → World → Prop) =>
 o pr E w (sBinC .eql 9 t7 (Value.string (S [])) 9) fun t40 w =>
 condG t40 false (o pr E w (sBinC .gtr 3 (e1 4) (Value.int IntKind.i64 32767) 3) fun t43 w =>
 o pr E w (sPick t40 (Value.bool true) t43) fun t44_1 w =>
 k10 t44_1 w)
  (o pr E w (sPick t40 (Value.bool true) undef) fun t44_2 w =>
 k10 t44_2 w))
 (fun t44 w =>
 condP t44 (K (Value.int IntKind.i64 (-1)) w)
  (K (e1 4) w)))) w1
def lv_rd_number : Lives := [(1, [0]), (2, [3]), (3, [3, 4]), (4, [3, 4, 9, 10]), (5, [3, 4, 9, 10, 11]), (6, [3, 4, 5, 9, 10]), (7, [3, 4, 5, 9, 10, 29]), (8, [3, 4, 5, 9, 10]), (9, [3, 4, 9, 10]), (10, [3, 4]), (11, [4, 44]), (12, [4])]
theorem sh_rd_number_ok (a0 : Value) (w : World) (R : Ending → World → Prop)
 (h : sh_rd_number (fun v w => R (.returned v) w) (fun c w => R (.panicked c) w) a0 w) : Calls pr n_rd_number #[a0] w R :=
 calls_of_W (A := lv_rd_number) enters mixed Go.Proofs.Tryz.func85 (by kernel_rfl) (by kernel_rfl) (by kernel_rfl)
  (Eq.mp (by kernel_rfl) h)
end Go.Inv
namespace Go.Inv
open Go.Sh
def sh_run_machine_list (K : Value → World → Prop) (E : PanicK) (a0 a1 : Value) (w : World) : Prop :=
 o pr E w (sB .len [83] 3 [a1]) fun t12 w =>
 ∃ (I1 : List Value → World → Prop) (m1 : List Value → World → Nat), I1 [(Value.int IntKind.i64 0)] w ∧
 ∀ (e1 : Nat → Value) w1, I1 [e1 13] w1 → (fun w =>
 o pr E w (sBin .lss 3 (e1 13) t12 3) fun t14 w =>
 ∃ j2 : List Value → World → Prop, (∀ (e2 : Nat → Value) w, j2 [] w →
 o pr E w (sBinC .add 3 (e1 13) (Value.int IntKind.i64 1) 3) fun t136 w =>
 I1 [t136] w ∧ m1 [t136] w < m1 [e1 13] w1) ∧
 condP t14 (o pr E w (sIA 83 a1 (e1 13)) fun t15 w =>
 o pr E w (sLoad 135 t15) fun t16 w =>
 o pr E w (sInvoke t16 "Where" []) fun t19 w =>
 cl pr E w n_run_machine_visit #[a0, t19] fun _ w =>
 o pr E w (sAssert t16 135 136 true) fun t22 w =>
 o pr E w (sExt t22 1) fun t23 w =>
 o pr E w (sExt t22 0) fun t24 w =>
 condP t23 ((fun w =>
 oz pr (sNil t24) fun t27 =>
 oz pr (sFA 140 t27 1) fun t28 =>
 oa pr w (sLoad 3 t28) fun t29 =>
 oz pr (sNil t24) fun t32 =>
 oz pr (sFA 140 t32 2) fun t33 =>
 oa pr w (sLoad 138 t33) fun t34 =>
 oz pr (sNil a0) fun t36 =>
 oz pr (sFA 93 t36 0) fun t37 =>
 cl pr E w n_run_machine_sum #[a0, t34] fun t35 w =>
 rk pr w (sLoad 3 t28) t29 ∧
 oz pr (sIA 57 t37 t29) fun t38 =>
 o pr E w (sStore 55 t38 t35) fun _ w =>
 j2 [] w) (dr w))
  (o pr E w (sAssert t16 135 144 true) fun t39 w =>
 o pr E w (sExt t39 1) fun t40 w =>
 o pr E w (sExt t39 0) fun t41 w =>
 condP t40 ((fun w =>
 oz pr (sNil t41) fun t44 =>
 oz pr (sFA 146 t44 1) fun t45 =>
 oa pr w (sLoad 3 t45) fun t46 =>
 oz pr (sNil a0) fun t47 =>
 oz pr (sFA 93 t47 0) fun t48 =>
 oz pr (sIA 57 t48 t46) fun t49 =>
 o pr E w (sStore 55 t49 (Value.int IntKind.i16 0)) fun _ w =>
 o pr E w (sNil a0) fun t51 w =>
 o pr E w (sFA 93 t51 1) fun t52 w =>
 o pr E w (sLoad 61 t52) fun t53 w =>
 o pr E w (sB .len [61] 3 [t53]) fun t54 w =>
 o pr E w (sBinC .gtr 3 t54 (Value.int IntKind.i64 0) 3) fun t55 w =>
 condP t55 ((fun w =>
 oz pr (sNil t41) fun t58 =>
 oz pr (sFA 146 t58 1) fun t59 =>
 oa pr w (sLoad 3 t59) fun t60 =>
 oz pr (sNil a0) fun t63 =>
 oz pr (sFA 93 t63 1) fun t64 =>
 oa pr w (sLoad 61 t64) fun t65 =>
 oz pr (sIA 61 t65 (Value.int IntKind.i64 0)) fun t66 =>
 oa pr w (sLoad 55 t66) fun t67 =>
 oz pr (sNil a0) fun t69 =>
 oz pr (sFA 93 t69 1) fun t70 =>
 oa pr w (sLoad 61 t70) fun t71 =>
 oz pr (sSlice 61 t71 (some (Value.int IntKind.i64 1)) none none) fun t72 =>
 oz pr (sNil a0) fun t73 =>
 oz pr (sFA 93 t73 0) fun t74 =>
 oz pr (sIA 57 t74 t60) fun t75 =>
 o pr E w (sStore 55 t75 t67) fun _ w =>
 oz pr (sNil a0) fun t76 =>
 oz pr (sFA 93 t76 1) fun t77 =>
 o pr E w (sStore 61 t77 t72) fun _ w =>
 j2 [] w) (dr w))
  (j2 [] w)) (dr w))
  (o pr E w (sAssert t16 135 147 true) fun t78 w =>
 o pr E w (sExt t78 1) fun t79 w =>
 o pr E w (sExt t78 0) fun t80 w =>
 condP t79 (o pr E w (sNil t80) fun t83 w =>
 o pr E w (sFA 153 t83 1) fun t84 w =>
 o pr E w (sLoad 151 t84) fun t85 w =>
 cl pr E w n_run_machine_cond #[a0, t85] fun t86 w =>
 o pr E w (sUn .not 4 t86) fun t87 w =>
 condP t87 (o pr E w (sNil t80) fun t89 w =>
 o pr E w (sFA 153 t89 2) fun t90 w =>
 o pr E w (sLoad 3 t90) fun t91 w =>
 o pr E w (sIface 94 t91) fun t92 w =>
 o pr E w (sPanic t92) fun _ w =>
 j2 [] w)
  (j2 [] w))
  (o pr E w (sAssert t16 135 154 true) fun t93 w =>
 o pr E w (sExt t93 1) fun t94 w =>
 o pr E w (sExt t93 0) fun t95 w =>
 condP t94 (o pr E w (sNil t95) fun t98 w =>
 o pr E w (sFA 156 t98 1) fun t99 w =>
 o pr E w (sLoad 151 t99) fun t100 w =>
 cl pr E w n_run_machine_cond #[a0, t100] fun t101 w =>
 condP t101 (o pr E w (sNil t95) fun t104 w =>
 o pr E w (sFA 156 t104 2) fun t105 w =>
 o pr E w (sLoad 83 t105) fun t106 w =>
 cl pr E w n_run_machine_list #[a0, t106] fun _ w =>
 j2 [] w)
  (o pr E w (sNil t95) fun t110 w =>
 o pr E w (sFA 156 t110 3) fun t111 w =>
 o pr E w (sLoad 83 t111) fun t112 w =>
 cl pr E w n_run_machine_list #[a0, t112] fun _ w =>
 j2 [] w))
  (o pr E w (sAssert t16 135 157 true) fun t114 w =>
 o pr E w (sExt t114 1) fun t115 w =>
 o pr E w (sExt t114 0) fun t116 w =>
 condP t115 (∃ (I3 : List Value → World → Prop) (m3 : List Value → World → Nat), I3 [] w ∧
 ∀ (e3 : Nat → Value) w3, I3 [] w3 → (fun w =>
 o pr E w (sNil t116) fun t119 w =>
 o pr E w (sFA 159 t119 1) fun t120 w =>
 o pr E w (sLoad 151 t120) fun t121 w =>
 cl pr E w n_run_machine_cond #[a0, t121] fun t122 w =>
 condP t122 (o pr E w (sNil t116) fun t125 w =>
 o pr E w (sFA 159 t125 2) fun t126 w =>
 o pr E w (sLoad 83 t126) fun t127 w =>
 cl pr E w n_run_machine_list #[a0, t127] fun _ w =>
 o pr E w (sNil t116) fun t131 w =>
 o pr E w (sFA 159 t131 0) fun t132 w =>
 o pr E w (sLoad 133 t132) fun t133 w =>
 cl pr E w n_tree_Point_Where #[t133] fun t134 w =>
 cl pr E w n_run_machine_visit #[a0, t134] fun _ w =>
 I3 [] w ∧ m3 [] w < m3 [] w3)
  (j2 [] w)) w3)
  (j2 [] w))))))
  (K (.tuple #[]) w)) w1
def lv_run_machine_list : Lives := [(1, [0, 11, 12, 13]), (2, [0, 11, 12, 13, 14]), (3, [0, 5, 11, 12, 13]), (4, [0, 5, 11, 12, 13]), (5, [0, 11, 12, 13, 21]), (6, [0, 11, 12, 13, 21, 23, 24]), (7, [0, 6, 11, 12, 13]), (9, [0, 11, 12, 13, 21, 40, 41]), (10, [0, 7, 11, 12, 13]), (11, [0, 7, 11, 12, 13]), (12, [0, 7, 11, 12, 13, 55]), (14, [0, 11, 12, 13, 21, 79, 80]), (15, [0, 8, 11, 12, 13]), (16, [0, 8, 11, 12, 13, 87]), (18, [0, 11, 12, 13, 21, 94, 95]), (19, [0, 9, 11, 12, 13]), (20, [0, 9, 11, 12, 13, 101]), (23, [0, 11, 12, 13, 115, 116]), (24, [0, 10, 11, 12, 13]), (25, [0, 10, 11, 12, 13]), (26, [0, 10, 11, 12, 13]), (27, [0, 11, 12, 13])]
theorem sh_run_machine_list_ok (a0 a1 : Value) (w : World) (R : Ending → World → Prop)
 (h : sh_run_machine_list (fun v w => R (.returned v) w) (fun c w => R (.panicked c) w) a0 a1 w) : Calls pr n_run_machine_list #[a0, a1] w R :=
 calls_of_W (A := lv_run_machine_list) enters mixed Go.Proofs.Tryz.func28 (by kernel_rfl) (by kernel_rfl) (by kernel_rfl)
  (Eq.mp (by kernel_rfl) h)
def sh_run_machine_visit (K : Value → World → Prop) (E : PanicK) (a0 a1 : Value) (w : World) : Prop :=
 ∃ j1 : List Value → World → Prop, (∀ (e1 : Nat → Value) w, j1 [] w →
 o pr E w (sNil a0) fun t11 w =>
 o pr E w (sFA 93 t11 2) fun t12 w =>
 o pr E w (sLoad 3 t12) fun t13 w =>
 o pr E w (sBinC .sub 3 t13 (Value.int IntKind.i64 1) 3) fun t14 w =>
 o pr E w (sNil a0) fun t15 w =>
 o pr E w (sFA 93 t15 2) fun t16 w =>
 o pr E w (sStore 3 t16 t14) fun _ w =>
 (fun w =>
 oz pr (sNil a0) fun t19 =>
 oz pr (sFA 93 t19 3) fun t20 =>
 oa pr w (sLoad 32 t20) fun t21 =>
 oz pr (sNil a0) fun t24 =>
 oz pr (sFA 93 t24 0) fun t25 =>
 oa pr w (sLoad 57 t25) fun t26 =>
 oz pr (sBuild 59 [(0, a1), (1, t26)]) fun t27 =>
 o pr E w (sBuildSlice 32 1 [(0, t27)]) fun t28 w =>
 rk pr w (sLoad 32 t20) t21 ∧
 o pr E w (sB .append [32, 32] 32 [t21, t28]) fun t29 w =>
 oz pr (sNil a0) fun t30 =>
 oz pr (sFA 93 t30 3) fun t31 =>
 o pr E w (sStore 32 t31 t29) fun _ w =>
 K (.tuple #[]) w) (dr w)) ∧
 o pr E w (sNil a0) fun t5 w =>
 o pr E w (sFA 93 t5 2) fun t6 w =>
 o pr E w (sLoad 3 t6) fun t7 w =>
 o pr E w (sBinC .eql 3 t7 (Value.int IntKind.i64 0) 3) fun t8 w =>
 condP t8 (o pr E w (sIface 94 (Value.int IntKind.i64 (-2))) fun t9 w =>
 o pr E w (sPanic t9) fun _ w =>
 j1 [] w)
  (j1 [] w)
def lv_run_machine_visit : Lives := [(1, [0, 1, 8]), (2, [0, 1]), (3, [0, 1])]
theorem sh_run_machine_visit_ok (a0 a1 : Value) (w : World) (R : Ending → World → Prop)
 (h : sh_run_machine_visit (fun v w => R (.returned v) w) (fun c w => R (.panicked c) w) a0 a1 w) : Calls pr n_run_machine_visit #[a0, a1] w R :=
 calls_of_W (A := lv_run_machine_visit) enters mixed Go.Proofs.Tryz.func29 (by kernel_rfl) (by kernel_rfl) (by kernel_rfl)
  (Eq.mp (by kernel_rfl) h)
def sh_run_machine_sum (K : Value → World → Prop) (E : PanicK) (a0 a1 : Value) (w : World) : Prop :=
 o pr E w (sAssert a1 138 198 true) fun t12 w =>
 o pr E w (sExt t12 1) fun t13 w =>
 o pr E w (sExt t12 0) fun t14 w =>
 condP t13 (o pr E w (sNil t14) fun t16 w =>
 o pr E w (sFA 200 t16 0) fun t17 w =>
 o pr E w (sLoad 55 t17) fun t18 w =>
 K t18 w)
  (o pr E w (sAssert a1 138 201 true) fun t19 w =>
 o pr E w (sExt t19 1) fun t20 w =>
 o pr E w (sExt t19 0) fun t21 w =>
 condP t20 ((fun w =>
 oz pr (sNil t21) fun t24 =>
 oz pr (sFA 203 t24 0) fun t25 =>
 oa pr w (sLoad 3 t25) fun t26 =>
 oz pr (sNil a0) fun t27 =>
 oz pr (sFA 93 t27 0) fun t28 =>
 oz pr (sIA 57 t28 t26) fun t29 =>
 oa pr w (sLoad 55 t29) fun t30 =>
 K t30 w) (dr w))
  (o pr E w (sAssert a1 138 204 true) fun t31 w =>
 o pr E w (sExt t31 1) fun t32 w =>
 o pr E w (sExt t31 0) fun t33 w =>
 condP t32 (o pr E w (sNil t33) fun t36 w =>
 o pr E w (sFA 206 t36 0) fun t37 w =>
 o pr E w (sLoad 138 t37) fun t38 w =>
 cl pr E w n_run_machine_sum #[a0, t38] fun t39 w =>
 o pr E w (sUn .neg 55 t39) fun t40 w =>
 K t40 w)
  (o pr E w (sAssert a1 138 207 true) fun t41 w =>
 o pr E w (sExt t41 1) fun t42 w =>
 o pr E w (sExt t41 0) fun t43 w =>
 condP t42 (o pr E w (sNil t43) fun t46 w =>
 o pr E w (sFA 209 t46 1) fun t47 w =>
 o pr E w (sLoad 138 t47) fun t48 w =>
 cl pr E w n_run_machine_sum #[a0, t48] fun t49 w =>
 o pr E w (sNil t43) fun t52 w =>
 o pr E w (sFA 209 t52 2) fun t53 w =>
 o pr E w (sLoad 138 t53) fun t54 w =>
 cl pr E w n_run_machine_sum #[a0, t54] fun t55 w =>
 ∃ j1 : List Value → World → Prop, (∀ (e1 : Nat → Value) w, j1 [] w →
 o pr E w (sNil t43) fun t83 w =>
 o pr E w (sFA 209 t83 0) fun t84 w =>
 o pr E w (sLoad 5 t84) fun t85 w =>
 o pr E w (sBinC .eql 5 t85 (Value.int IntKind.u8 47) 5) fun t86 w =>
 condP t86 (o pr E w (sBin .quo 55 t49 t55 55) fun t89 w =>
 K t89 w)
  (o pr E w (sBin .rem 55 t49 t55 55) fun t92 w =>
 K t92 w)) ∧
 o pr E w (sNil t43) fun t57 w =>
 o pr E w (sFA 209 t57 0) fun t58 w =>
 o pr E w (sLoad 5 t58) fun t59 w =>
 o pr E w (sBinC .eql 5 t59 (Value.int IntKind.u8 43) 5) fun t61 w =>
 condP t61 (o pr E w (sBin .add 55 t49 t55 55) fun t64 w =>
 K t64 w)
  (o pr E w (sBinC .eql 5 t59 (Value.int IntKind.u8 45) 5) fun t66 w =>
 condP t66 (o pr E w (sBin .sub 55 t49 t55 55) fun t69 w =>
 K t69 w)
  (o pr E w (sBinC .eql 5 t59 (Value.int IntKind.u8 42) 5) fun t71 w =>
 condP t71 (o pr E w (sBin .mul 55 t49 t55 55) fun t74 w =>
 K t74 w)
  (o pr E w (sBinC .eql 55 t55 (Value.int IntKind.i16 0) 55) fun t76 w =>
 condP t76 (o pr E w (sNil t43) fun t78 w =>
 o pr E w (sFA 209 t78 3) fun t79 w =>
 o pr E w (sLoad 3 t79) fun t80 w =>
 o pr E w (sIface 94 t80) fun t81 w =>
 o pr E w (sPanic t81) fun _ w =>
 j1 [] w)
  (j1 [] w)))))
  (K (Value.int IntKind.i16 0) w))))
def lv_run_machine_sum : Lives := [(1, [0, 1]), (2, [0, 11]), (3, [0, 11, 13, 14]), (4, [5]), (6, [0, 11, 20, 21]), (7, [0, 6]), (9, [0, 11, 32, 33]), (10, [0, 7]), (12, [0, 42, 43]), (13, [0, 8]), (14, [0, 8, 9]), (15, [8, 9, 10]), (16, [8, 9, 10, 59]), (17, [8, 9, 10, 59, 60]), (19, [8, 9, 10, 59, 65]), (21, [8, 9, 10, 70]), (22, [8, 9, 10]), (23, [8, 9, 10, 76]), (24, [8, 9, 10]), (25, [9, 10, 86]), (26, [9, 10]), (27, [])]
theorem sh_run_machine_sum_ok (a0 a1 : Value) (w : World) (R : Ending → World → Prop)
 (h : sh_run_machine_sum (fun v w => R (.returned v) w) (fun c w => R (.panicked c) w) a0 a1 w) : Calls pr n_run_machine_sum #[a0, a1] w R :=
 calls_of_W (A := lv_run_machine_sum) enters mixed Go.Proofs.Tryz.func46 (by kernel_rfl) (by kernel_rfl) (by kernel_rfl)
  (Eq.mp (by kernel_rfl) h)
def sh_run_machine_cond (K : Value → World → Prop) (E : PanicK) (a0 a1 : Value) (w : World) : Prop :=
 o pr E w (sBox 151 a1) fun t3 w =>
 o pr E w (sFA 151 t3 0) fun t8 w =>
 o pr E w (sLoad 138 t8) fun t9 w =>
 cl pr E w n_run_machine_sum #[a0, t9] fun t10 w =>
 o pr E w (sFA 151 t3 1) fun t12 w =>
 o pr E w (sLoad 138 t12) fun t13 w =>
 cl pr E w n_run_machine_sum #[a0, t13] fun t14 w =>
 o pr E w (sFA 151 t3 2) fun t15 w =>
 o pr E w (sLoad 149 t15) fun t16 w =>
 o pr E w (sConv 55 3 t10) fun t18 w =>
 o pr E w (sConv 55 3 t14) fun t20 w =>
 cl pr E w n_tree_Rel_Holds #[t16, t18, t20] fun t21 w =>
 K t21 w
def lv_run_machine_cond : Lives := [(1, [0, 3]), (2, [0, 3, 5]), (3, [3, 5, 6])]
theorem sh_run_machine_cond_ok (a0 a1 : Value) (w : World) (R : Ending → World → Prop)
 (h : sh_run_machine_cond (fun v w => R (.returned v) w) (fun c w => R (.panicked c) w) a0 a1 w) : Calls pr n_run_machine_cond #[a0, a1] w R :=
 calls_of_W (A := lv_run_machine_cond) enters mixed Go.Proofs.Tryz.func47 (by kernel_rfl) (by kernel_rfl) (by kernel_rfl)
  (Eq.mp (by kernel_rfl) h)
def sh_tree_Point_Where (K : Value → World → Prop) (E : PanicK) (a0 : Value) (w : World) : Prop :=
 o pr E w (sBox 133 a0) fun t1 w =>
 o pr E w (sFA 133 t1 0) fun t3 w =>
 o pr E w (sLoad 3 t3) fun t4 w =>
 K t4 w
def lv_tree_Point_Where : Lives := [(1, [1])]
theorem sh_tree_Point_Where_ok (a0 : Value) (w : World) (R : Ending → World → Prop)
 (h : sh_tree_Point_Where (fun v w => R (.returned v) w) (fun c w => R (.panicked c) w) a0 w) : Calls pr n_tree_Point_Where #[a0] w R :=
 calls_of_W (A := lv_tree_Point_Where) enters mixed Go.Proofs.Tryz.func48 (by kernel_rfl) (by kernel_rfl) (by kernel_rfl)
  (Eq.mp (by kernel_rfl) h)
def sh_tree_Rel_Holds (K : Value → World → Prop) (E : PanicK) (a0 a1 a2 : Value) (w : World) : Prop :=
 o pr E w (sBinC .eql 149 a0 (Value.int IntKind.i64 0) 149) fun t9 w =>
 condP t9 (o pr E w (sBin .lss 3 a1 a2 3) fun t12 w =>
 K t12 w)
  (o pr E w (sBinC .eql 149 a0 (Value.int IntKind.i64 1) 149) fun t14 w =>
 condP t14 (o pr E w (sBin .geq 3 a1 a2 3) fun t17 w =>
 K t17 w)
  (o pr E w (sBinC .eql 149 a0 (Value.int IntKind.i64 2) 149) fun t19 w =>
 condP t19 (o pr E w (sBin .leq 3 a1 a2 3) fun t22 w =>
 K t22 w)
  (o pr E w (sBinC .eql 149 a0 (Value.int IntKind.i64 3) 149) fun t24 w =>
 condP t24 (o pr E w (sBin .gtr 3 a1 a2 3) fun t27 w =>
 K t27 w)
  (o pr E w (sBinC .eql 149 a0 (Value.int IntKind.i64 4) 149) fun t29 w =>
 condP t29 (o pr E w (sBin .eql 3 a1 a2 3) fun t32 w =>
 K t32 w)
  (o pr E w (sBin .neq 3 a1 a2 3) fun t35 w =>
 K t35 w)))))
def lv_tree_Rel_Holds : Lives := [(1, [0, 1, 2]), (2, [1, 2, 7]), (3, [1, 2, 7, 8]), (5, [1, 2, 7, 13]), (7, [1, 2, 7, 18]), (9, [1, 2, 7, 23]), (11, [1, 2, 28]), (12, [1, 2])]
theorem sh_tree_Rel_Holds_ok (a0 a1 a2 : Value) (w : World) (R : Ending → World → Prop)
 (h : sh_tree_Rel_Holds (fun v w => R (.returned v) w) (fun c w => R (.panicked c) w) a0 a1 a2 w) : Calls pr n_tree_Rel_Holds #[a0, a1, a2] w R :=
 calls_of_W (A := lv_tree_Rel_Holds) enters mixed Go.Proofs.Tryz.func64 (by kernel_rfl) (by kernel_rfl) (by kernel_rfl)
  (Eq.mp (by kernel_rfl) h)
def sh_tree_Rel_Opposite (K : Value → World → Prop) (E : PanicK) (a0 : Value) (w : World) : Prop :=
 o pr E w (sBinC .xor 149 a0 (Value.int IntKind.i64 1) 149) fun t4 w =>
 K t4 w
def lv_tree_Rel_Opposite : Lives := [(1, [0])]
theorem sh_tree_Rel_Opposite_ok (a0 : Value) (w : World) (R : Ending → World → Prop)
 (h : sh_tree_Rel_Opposite (fun v w => R (.returned v) w) (fun c w => R (.panicked c) w) a0 w) : Calls pr n_tree_Rel_Opposite #[a0] w R :=
 calls_of_W (A := lv_tree_Rel_Opposite) enters mixed Go.Proofs.Tryz.func79 (by kernel_rfl) (by kernel_rfl) (by kernel_rfl)
  (Eq.mp (by kernel_rfl) h)
end Go.Inv
namespace Go.Inv
open Go.Sh
def shd_text_Read_b (RD : World → Prop) (E : PanicK) (a0 t13 t2 t3 : Value) (w : World) : Prop :=
 cl pr E w n_rd_next #[t13] fun t16 w =>
 ∃ j1 : List Value → World → Prop, (∀ (e1 : Nat → Value) w, j1 [] w →
 o pr E w (sNil t13) fun t35 w =>
 o pr E w (sFA 87 t35 4) fun t36 w =>
 o pr E w (sLoad 66 t36) fun t37 w =>
 o pr E w (sNil t37) fun t38 w =>
 o pr E w (sFA 85 t38 1) fun t39 w =>
 o pr E w (sLoad 3 t39) fun t40 w =>
 o pr E w (sBinC .add 3 t40 (Value.int IntKind.i64 1) 3) fun t41 w =>
 o pr E w (sNil t37) fun t42 w =>
 o pr E w (sFA 85 t42 1) fun t43 w =>
 o pr E w (sStore 3 t43 t41) fun _ w =>
 o pr E w (sNil t13) fun t45 w =>
 o pr E w (sFA 87 t45 4) fun t46 w =>
 o pr E w (sLoad 66 t46) fun t47 w =>
 o pr E w (sStore 66 t2 t47) fun _ w =>
 o pr E w (sStore 36 t3 (Value.nilIface)) fun _ w =>
 RD w) ∧
 (fun w =>
 oz pr (sNil t13) fun t18 =>
 oz pr (sFA 87 t18 4) fun t19 =>
 oa pr w (sLoad 66 t19) fun t20 =>
 cl pr E w n_rd_statements #[t13] fun t22 w =>
 rk pr w (sLoad 66 t19) t20 ∧
 oz pr (sNil t20) fun t23 =>
 oz pr (sFA 85 t23 0) fun t24 =>
 o pr E w (sStore 83 t24 t22) fun _ w =>
 o pr E w (sNil t13) fun t26 w =>
 o pr E w (sFA 87 t26 1) fun t27 w =>
 o pr E w (sLoad 3 t27) fun t28 w =>
 o pr E w (sB .len [9] 3 [a0]) fun t30 w =>
 o pr E w (sBin .lss 3 t28 t30 3) fun t31 w =>
 condP t31 (cl pr E w n_rd_leave #[t13, (Value.int IntKind.i64 2)] fun t33 w =>
 j1 [] w)
  (j1 [] w)) (dr w)
def shd_text_Read (K : Value → World → Prop) (E : PanicK) (a0 : Value) (w : World) : Prop :=
 o pr E w (sAlloc 66) fun t2 w =>
 o pr E w (sAlloc 36) fun t3 w =>
 o pr E w (sB .len [9] 3 [a0]) fun t6 w =>
 o pr E w (sBinC .gtr 3 t6 (Value.int IntKind.i64 400) 3) fun t7 w =>
 condP t7 (o pr E w (sIface 44 (Value.int IntKind.i64 1)) fun t8 w =>
 o pr E w (sStore 66 t2 (Value.pointer none)) fun _ w =>
 o pr E w (sStore 36 t3 t8) fun _ w =>
 rs pr w t2 66 fun v0_0 =>
 rs pr w t3 36 fun v1_1 =>
 K (.tuple #[v0_0, v1_1]) w)
  (o pr E w (sBuild 85 []) fun t10 w =>
 o pr E w (sBox 85 t10) fun t11 w =>
 o pr E w (sBuild 87 [(0, a0), (4, t11)]) fun t12 w =>
 o pr E w (sBox 87 t12) fun t13 w =>
 o pr E w (sFunc (.func n_text_Read_1) [] [t2, t3]) fun t14 w =>
 fnV t14 ∧
 (fun (RK : World → Prop) => shd_text_Read_b (fun w => dfr pr t14 RK E .returning w) (fun c w => dfr pr t14 RK E (.panicking c) w) a0 t13 t2 t3 w) (fun w =>
 rs pr w t2 66 fun v0_2 =>
 rs pr w t3 36 fun v1_3 =>
 K (.tuple #[v0_2, v1_3]) w))
def lvd_text_Read : Lives := [(1, [0, 2, 3]), (2, [0, 2, 3, 7]), (3, [0, 2, 3]), (4, [0, 2, 3, 4]), (5, [0, 2, 3, 4]), (6, [0, 2, 3, 4]), (7, [0, 2, 3, 4]), (8, [2, 3, 4, 31]), (9, [2, 3, 4]), (10, [2, 3, 4])]
theorem shd_text_Read_ok (a0 : Value) (w : World) (R : Ending → World → Prop)
 (h : shd_text_Read (fun v w => R (.returned v) w) (fun c w => R (.panicked c) w) a0 w) : Calls pr n_text_Read #[a0] w R :=
 calls_of_WD (A := lvd_text_Read) enters mixed Go.Proofs.Tryz.func18 (by kernel_rfl) (by kernel_rfl) (by kernel_rfl)
  (Eq.mp (by kernel_rfl) h)
def shd_text_Read_1 (K : Value → World → Prop) (E : PanicK) (a0 a1 rv : Value) (w : World) : Prop :=
 o pr E w (sBinC .neq 20 rv (Value.nilIface) 20) fun t7 w =>
 condP t7 (∃ j1 : List Value → World → Prop, (∀ (e1 : Nat → Value) w, j1 [e1 3] w →
 o pr E w (sIface 73 (e1 3)) fun t17 w =>
 o pr E w (sStore 66 a0 (Value.pointer none)) fun _ w =>
 o pr E w (sStore 36 a1 t17) fun _ w =>
 K (.tuple #[]) w) ∧
 o pr E w (sAssert rv 20 73 true) fun t10 w =>
 o pr E w (sExt t10 0) fun t11 w =>
 o pr E w (sExt t10 1) fun t12 w =>
 o pr E w (sUn .not 4 t12) fun t14 w =>
 condP t14 (o pr E w (sPanic rv) fun _ w =>
 j1 [t11] w)
  (j1 [t11] w))
  (K (.tuple #[]) w)
def lvd_text_Read_1 : Lives := [(2, [0, 1, 2, 7]), (3, [0, 1, 2, 3, 4]), (4, [0, 1, 2, 3, 14]), (5, [0, 1, 3])]
theorem shd_text_Read_1_ok (a0 a1 : Value) (u : FrameMode) (w : World) (R : Ending → FrameMode → World → Prop)
 (h : shd_text_Read_1 (fun v w => R (.returned v) (recU u).2 w) (fun c w => R (.panicked c) (recU u).2 w) a0 a1 (recU u).1 w) : CallsD pr n_text_Read_1 #[a0, a1] u w R :=
 callsD_of_W (A := lvd_text_Read_1) enters mixed Go.Proofs.Tryz.func23 (by kernel_rfl) (by kernel_rfl) (by kernel_rfl) (by kernel_rfl) (by kernel_rfl) (by kernel_rfl)
  (Eq.mp (by kernel_rfl) h)
def shd_run_Run_b (RD : World → Prop) (E : PanicK) (a0 t7 : Value) (w : World) : Prop :=
 (fun w =>
 oa pr w (sLoad 91 t7) fun t13 =>
 oz pr (sNil a0) fun t15 =>
 oz pr (sFA 85 t15 0) fun t16 =>
 oa pr w (sLoad 83 t16) fun t17 =>
 cl pr E w n_run_machine_list #[t13, t17] fun t18 w =>
 (fun w =>
 oa pr w (sLoad 91 t7) fun t19 =>
 oz pr (sNil a0) fun t21 =>
 oz pr (sFA 85 t21 1) fun t22 =>
 oa pr w (sLoad 3 t22) fun t23 =>
 oz pr (sBinC .sub 3 t23 (Value.int IntKind.i64 1) 3) fun t24 =>
 cl pr E w n_run_machine_visit #[t19, t24] fun t25 w =>
 o pr E w (sIface 94 (Value.int IntKind.i64 (-1))) fun t26 w =>
 o pr E w (sPanic t26) fun _ w =>
 RD w) (dr w)) (dr w)
def shd_run_Run (K : Value → World → Prop) (E : PanicK) (a0 a1 a2 : Value) (w : World) : Prop :=
 o pr E w (sAlloc 34) fun t6 w =>
 o pr E w (sBuild 93 [(1, a1), (2, a2)]) fun t10 w =>
 o pr E w (sBox 93 t10) fun t11 w =>
 o pr E w (sAlloc 91) fun t7 w =>
 o pr E w (sStore 91 t7 t11) fun _ w =>
 o pr E w (sFunc (.func n_run_Run_1) [] [t7, t6]) fun t12 w =>
 fnV t12 ∧
 (fun (RK : World → Prop) => shd_run_Run_b (fun w => dfr pr t12 RK E .returning w) (fun c w => dfr pr t12 RK E (.panicking c) w) a0 t7 w) (fun w =>
 rs pr w t6 34 fun v0_0 =>
 K v0_0 w)
def lvd_run_Run : Lives := [(1, [0, 1, 2, 6]), (2, [0, 6, 7]), (3, [0, 6, 7]), (4, [0, 6, 7]), (5, [6])]
theorem shd_run_Run_ok (a0 a1 a2 : Value) (w : World) (R : Ending → World → Prop)
 (h : shd_run_Run (fun v w => R (.returned v) w) (fun c w => R (.panicked c) w) a0 a1 a2 w) : Calls pr n_run_Run #[a0, a1, a2] w R :=
 calls_of_WD (A := lvd_run_Run) enters mixed Go.Proofs.Tryz.func19 (by kernel_rfl) (by kernel_rfl) (by kernel_rfl)
  (Eq.mp (by kernel_rfl) h)
def shd_run_Run_1 (K : Value → World → Prop) (E : PanicK) (a0 a1 rv : Value) (w : World) : Prop :=
 ∃ j1 : List Value → World → Prop, (∀ (e1 : Nat → Value) w, j1 [e1 3] w →
 o pr E w (sLoad 91 a0) fun t18 w =>
 o pr E w (sNil t18) fun t19 w =>
 o pr E w (sFA 93 t19 3) fun t20 w =>
 o pr E w (sLoad 32 t20) fun t21 w =>
 o pr E w (sBuild 34 [(0, t21), (1, (e1 3))]) fun t23 w =>
 o pr E w (sStore 34 a1 t23) fun _ w =>
 K (.tuple #[]) w) ∧
 o pr E w (sAssert rv 20 94 true) fun t8 w =>
 o pr E w (sExt t8 0) fun t9 w =>
 o pr E w (sExt t8 1) fun t10 w =>
 (fun (k2 : Value → World → Prop) =>
 o pr E w (sBinC .neq 20 rv (Value.nilIface) 20) fun t12 w =>
 condG t12 true (o pr E w (sUn .not 4 t10) fun t15 w =>
 o pr E w (sPick t12 t15 (Value.bool false)) fun t16_1 w =>
 k2 t16_1 w)
  (o pr E w (sPick t12 undef (Value.bool false)) fun t16_2 w =>
 k2 t16_2 w))
 (fun t16 w =>
 condP t16 (o pr E w (sPanic rv) fun _ w =>
 j1 [t9] w)
  (j1 [t9] w))
def lvd_run_Run_1 : Lives := [(2, [0, 1, 2, 3, 4]), (3, [0, 1, 2, 3, 16]), (4, [0, 1, 3])]
theorem shd_run_Run_1_ok (a0 a1 : Value) (u : FrameMode) (w : World) (R : Ending → FrameMode → World → Prop)
 (h : shd_run_Run_1 (fun v w => R (.returned v) (recU u).2 w) (fun c w => R (.panicked c) (recU u).2 w) a0 a1 (recU u).1 w) : CallsD pr n_run_Run_1 #[a0, a1] u w R :=
 callsD_of_W (A := lvd_run_Run_1) enters mixed Go.Proofs.Tryz.func27 (by kernel_rfl) (by kernel_rfl) (by kernel_rfl) (by kernel_rfl) (by kernel_rfl) (by kernel_rfl)
  (Eq.mp (by kernel_rfl) h)
end Go.Inv
namespace Go.Inv
open Go.Sh
theorem pl44 : plainT pr 44 = true := by kernel_rfl
theorem pl73 : plainT pr 73 = true := by kernel_rfl
theorem ag77 : aggT pr 77 = some 1 := by kernel_rfl
theorem ag115 : aggT pr 115 = some 3 := by kernel_rfl
theorem pl118 : plainT pr 118 = true := by kernel_rfl
theorem fo34_0 : fieldOff pr 34 0 = some 0 := by kernel_rfl
theorem fo34_1 : fieldOff pr 34 1 = some 1 := by kernel_rfl
theorem fo59_0 : fieldOff pr 59 0 = some 0 := by kernel_rfl
theorem fo59_1 : fieldOff pr 59 1 = some 1 := by kernel_rfl
theorem fo77_0 : fieldOff pr 77 0 = some 0 := by kernel_rfl
theorem fo79_0 : fieldOff pr 79 0 = some 0 := by kernel_rfl
theorem fo79_1 : fieldOff pr 79 1 = some 1 := by kernel_rfl
theorem il22 : isSl pr 22 = true := by kernel_rfl
theorem il32 : isSl pr 32 = true := by kernel_rfl
theorem il194 : isSl pr 194 = true := by kernel_rfl
theorem so9 : solid pr 9 = true := by kernel_rfl
theorem so75 : solid pr 75 = true := by kernel_rfl
theorem so81 : solid pr 81 = true := by kernel_rfl
def RT2 := (And.intro (And.intro (And.intro (And.intro (And.intro (And.intro (rLoad pl3) (raLoad pl3)) (And.intro (rkLoad pl3) (rStore pl3))) (And.intro (And.intro (rLoad pl32) (raLoad pl32)) (And.intro (rkLoad pl32) (And.intro (rStore pl32) (rLoad pl36))))) (And.intro (And.intro (And.intro (raLoad pl36) (rkLoad pl36)) (And.intro (rStore pl36) (And.intro (rLoad pl44) (raLoad pl44)))) (And.intro (And.intro (rkLoad pl44) (rStore pl44)) (And.intro (rLoad pl55) (And.intro (raLoad pl55) (rkLoad pl55)))))) (And.intro (And.intro (And.intro (And.intro (rStore pl55) (rLoad pl73)) (And.intro (raLoad pl73) (rkLoad pl73))) (And.intro (And.intro (rStore pl73) (rLoad pl118)) (And.intro (raLoad pl118) (And.intro (rkLoad pl118) (rStore pl118))))) (And.intro (And.intro (And.intro (rLoadA ag34) (raLoadA ag34)) (And.intro (rkLoadA ag34) (And.intro (rStoreA ag34) (rLoadA ag77)))) (And.intro (And.intro (raLoadA ag77) (rkLoadA ag77)) (And.intro (rStoreA ag77) (And.intro (rLoadA ag115) (raLoadA ag115))))))) (And.intro (And.intro (And.intro (And.intro (And.intro (rkLoadA ag115) (rStoreA ag115)) (And.intro (rFA fo34_0) (rzFA fo34_0))) (And.intro (And.intro (rFA fo34_1) (rzFA fo34_1)) (And.intro (rFA fo59_0) (And.intro (rzFA fo59_0) (rFA fo59_1))))) (And.intro (And.intro (And.intro (rzFA fo59_1) (rFA fo77_0)) (And.intro (rzFA fo77_0) (And.intro (rFA fo79_0) (rzFA fo79_0)))) (And.intro (And.intro (rFA fo79_1) (rzFA fo79_1)) (And.intro (rLenL il22) (And.intro (rzLenL il22) (rLenL il32)))))) (And.intro (And.intro (And.intro (And.intro (rzLenL il32) (rLenL il194)) (And.intro (rzLenL il194) (rIface so9))) (And.intro (And.intro (rzIface so9) (rIface so44)) (And.intro (rzIface so44) (And.intro (rIface so75) (rzIface so75))))) (And.intro (And.intro (And.intro (rIface so81) (rzIface so81)) (And.intro (rConv ik3 ik3) (And.intro (rzConv ik3 ik3) (rConv ik3 ik55)))) (And.intro (And.intro (rzConv ik3 ik55) (rConv ik55 ik3)) (And.intro (rzConv ik55 ik3) (And.intro (rConv ik55 ik55) (rzConv ik55 ik55))))))))
def sh_inv_Run (K : Value → World → Prop) (E : PanicK) (a0 a1 a2 : Value) (w : World) : Prop :=
 o pr E w (sAlloc 34) fun t6 w =>
 cl pr E w n_text_Read #[a0] fun t12 w =>
 o pr E w (sExt t12 0) fun t13 w =>
 o pr E w (sExt t12 1) fun t14 w =>
 o pr E w (sBinC .neq 36 t14 (Value.nilIface) 36) fun t16 w =>
 condP t16 (o pr E w (sBuild 34 []) fun t17 w =>
 o pr E w (sStore 34 t6 t17) fun _ w =>
 rs pr w t6 34 fun v0_0 =>
 K (.tuple #[v0_0, t14]) w)
  ((fun (k4 : Value → World → Prop) =>
 o pr E w (sBinC .lss 3 a2 (Value.int IntKind.i64 0) 3) fun t20 w =>
 condG t20 false (o pr E w (sBinC .gtr 3 a2 (Value.int IntKind.i64 500) 3) fun t23 w =>
 o pr E w (sPick t20 (Value.bool true) t23) fun t24_1 w =>
 k4 t24_1 w)
  (o pr E w (sPick t20 (Value.bool true) undef) fun t24_2 w =>
 k4 t24_2 w))
 (fun t24 w =>
 condP t24 (o pr E w (sBuild 34 []) fun t25 w =>
 o pr E w (sIface 44 (Value.int IntKind.i64 4)) fun t26 w =>
 o pr E w (sStore 34 t6 t25) fun _ w =>
 rs pr w t6 34 fun v0_1 =>
 K (.tuple #[v0_1, t26]) w)
  (cl pr E w n_run_Run #[t13, a1, a2] fun t30 w =>
 o pr E w (sStore 34 t6 t30) fun _ w =>
 rs pr w t6 34 fun v0_2 =>
 K (.tuple #[v0_2, (Value.nilIface)]) w)))
def lv_inv_Run : Lives := [(1, [0, 1, 2, 6]), (2, [1, 2, 6, 8, 9]), (3, [1, 2, 6, 8, 9, 16]), (4, [1, 2, 6, 8]), (5, [1, 2, 6, 8, 24]), (6, [1, 2, 6, 8])]
theorem sh_inv_Run_ok (a0 a1 a2 : Value) (w : World) (R : Ending → World → Prop)
 (h : sh_inv_Run (fun v w => R (.returned v) w) (fun c w => R (.panicked c) w) a0 a1 a2 w) : Calls pr n_inv_Run #[a0, a1, a2] w R :=
 calls_of_W (A := lv_inv_Run) enters mixed Go.Proofs.Tryz.func11 (by kernel_rfl) (by kernel_rfl) (by kernel_rfl)
  (Eq.mp (by kernel_rfl) h)
def sh_api_Tell (K : Value → World → Prop) (E : PanicK) (a0 : Value) (w : World) : Prop :=
 o pr E w (sAlloc 73) fun t4 w =>
 o pr E w (sAlloc 44) fun t5 w =>
 o pr E w (sBinC .eql 36 a0 (Value.nilIface) 36) fun t8 w =>
 condP t8 (K (.tuple #[(Value.int IntKind.i64 0), (Value.int IntKind.i64 0)]) w)
  (o pr E w (sIface 75 t4) fun t11 w =>
 cl pr E w n_errors_As #[a0, t11] fun t12 w =>
 condP t12 ((fun w =>
 oa pr w (sLoad 73 t4) fun t13 =>
 oz pr (sNil t13) fun t14 =>
 oz pr (sFA 79 t14 1) fun t15 =>
 oa pr w (sLoad 44 t15) fun t16 =>
 oa pr w (sLoad 73 t4) fun t17 =>
 oz pr (sNil t17) fun t18 =>
 oz pr (sFA 79 t18 0) fun t19 =>
 oa pr w (sLoad 77 t19) fun t20 =>
 cl pr E w n_api_Place_Where #[t20] fun t21 w =>
 rk pr w (sLoad 44 t15) t16 ∧
 rk pr w (sLoad 73 t4) t13 ∧
 K (.tuple #[t16, t21]) w) (dr w))
  (o pr E w (sIface 81 t5) fun t24 w =>
 cl pr E w n_errors_As #[a0, t24] fun t25 w =>
 condP t25 (o pr E w (sLoad 44 t5) fun t26 w =>
 K (.tuple #[t26, (Value.int IntKind.i64 0)]) w)
  (K (.tuple #[(Value.int IntKind.i64 (-1)), (Value.int IntKind.i64 0)]) w)))
def lv_api_Tell : Lives := [(1, [0]), (2, [0, 4]), (3, [0, 4, 5]), (4, [0, 4, 5, 6]), (6, [0, 4, 5, 9]), (8, [5, 22]), (9, [])]
theorem sh_api_Tell_ok (a0 : Value) (w : World) (R : Ending → World → Prop)
 (h : sh_api_Tell (fun v w => R (.returned v) w) (fun c w => R (.panicked c) w) a0 w) : Calls pr n_api_Tell #[a0] w R :=
 calls_of_W (A := lv_api_Tell) enters mixed Go.Proofs.Tryz.func13 (by kernel_rfl) (by kernel_rfl) (by kernel_rfl)
  (Eq.mp (by kernel_rfl) h)
def sh_errors_As (K : Value → World → Prop) (E : PanicK) (a0 a1 : Value) (w : World) : Prop :=
 ∃ j1 : List Value → World → Prop, (∀ (e1 : Nat → Value) w, j1 [] w →
 o pr E w (sCall (Fu n_rl_ValueOf) [a1]) fun t14 w =>
 o pr E w (sAlloc 115) fun t5 w =>
 o pr E w (sStore 115 t5 t14) fun _ w =>
 ∃ j2 : List Value → World → Prop, (∀ (e2 : Nat → Value) w, j2 [e2 6] w →
 ∃ j3 : List Value → World → Prop, (∀ (e3 : Nat → Value) w, j3 [e3 7] w →
 o pr E w (sLoad 115 t5) fun t39 w =>
 cl pr E w n_errors_as #[a0, a1, t39, (e3 7)] fun t41 w =>
 K t41 w) ∧
 o pr E w (sInvoke (e2 6) "Elem" []) fun t26 w =>
 (fun (k10 : Value → World → Prop) =>
 o pr E w (sInvoke t26 "Kind" []) fun t28 w =>
 o pr E w (sBinC .neq 120 t28 (Value.int IntKind.u8 20) 120) fun t29 w =>
 condG t29 true (o pr E w (sLoad 118 (G 0)) fun t32 w =>
 o pr E w (sInvoke t26 "Implements" [t32]) fun t33 w =>
 o pr E w (sUn .not 4 t33) fun t34 w =>
 o pr E w (sPick t29 t34 (Value.bool false)) fun t35_1 w =>
 k10 t35_1 w)
  (o pr E w (sPick t29 undef (Value.bool false)) fun t35_2 w =>
 k10 t35_2 w))
 (fun t35 w =>
 condP t35 (o pr E w (sIface 9 (Value.string (S [101, 114, 114, 111, 114, 115, 58, 32, 42, 116, 97, 114, 103, 101, 116, 32, 109, 117, 115, 116, 32, 98, 101, 32, 105, 110, 116, 101, 114, 102, 97, 99, 101, 32, 111, 114, 32, 105, 109, 112, 108, 101, 109, 101, 110, 116, 32, 101, 114, 114, 111, 114]))) fun t36 w =>
 o pr E w (sPanic t36) fun _ w =>
 j3 [t26] w)
  (j3 [t26] w))) ∧
 o pr E w (sLoad 115 t5) fun t15 w =>
 o pr E w (sCall (Fu n_rl_Value_Type) [t15]) fun t16 w =>
 (fun (k7 : Value → World → Prop) =>
 o pr E w (sInvoke t16 "Kind" []) fun t18 w =>
 o pr E w (sBinC .neq 120 t18 (Value.int IntKind.u8 22) 120) fun t19 w =>
 condG t19 false (o pr E w (sLoad 115 t5) fun t21 w =>
 o pr E w (sCall (Fu n_rl_Value_IsNil) [t21]) fun t22 w =>
 o pr E w (sPick t19 (Value.bool true) t22) fun t23_1 w =>
 k7 t23_1 w)
  (o pr E w (sPick t19 (Value.bool true) undef) fun t23_2 w =>
 k7 t23_2 w))
 (fun t23 w =>
 condP t23 (o pr E w (sIface 9 (Value.string (S [101, 114, 114, 111, 114, 115, 58, 32, 116, 97, 114, 103, 101, 116, 32, 109, 117, 115, 116, 32, 98, 101, 32, 97, 32, 110, 111, 110, 45, 110, 105, 108, 32, 112, 111, 105, 110, 116, 101, 114]))) fun t24 w =>
 o pr E w (sPanic t24) fun _ w =>
 j2 [t16] w)
  (j2 [t16] w))) ∧
 o pr E w (sBinC .eql 36 a0 (Value.nilIface) 36) fun t9 w =>
 condP t9 (K (Value.bool false) w)
  (o pr E w (sBinC .eql 20 a1 (Value.nilIface) 20) fun t11 w =>
 condP t11 (o pr E w (sIface 9 (Value.string (S [101, 114, 114, 111, 114, 115, 58, 32, 116, 97, 114, 103, 101, 116, 32, 99, 97, 110, 110, 111, 116, 32, 98, 101, 32, 110, 105, 108]))) fun t12 w =>
 o pr E w (sPanic t12) fun _ w =>
 j1 [] w)
  (j1 [] w))
def lv_errors_As : Lives := [(1, [0, 1]), (2, [0, 1, 9]), (3, [0, 1]), (4, [0, 1, 11]), (5, [0, 1]), (6, [0, 1, 5]), (7, [0, 1, 5, 6]), (8, [0, 1, 5, 6, 23]), (9, [0, 1, 5, 6]), (10, [0, 1, 5, 7]), (11, [0, 1, 5, 7, 35]), (12, [0, 1, 5, 7])]
theorem sh_errors_As_ok (a0 a1 : Value) (w : World) (R : Ending → World → Prop)
 (h : sh_errors_As (fun v w => R (.returned v) w) (fun c w => R (.panicked c) w) a0 a1 w) : Calls pr n_errors_As #[a0, a1] w R :=
 calls_of_W (A := lv_errors_As) enters mixed Go.Proofs.Tryz.func21 (by kernel_rfl) (by kernel_rfl) (by kernel_rfl)
  (Eq.mp (by kernel_rfl) h)
def sh_errors_as (K : Value → World → Prop) (E : PanicK) (a0 a1 a2 a3 : Value) (w : World) : Prop :=
 o pr E w (sBox 115 a2) fun t6 w =>
 ∃ (I1 : List Value → World → Prop) (m1 : List Value → World → Nat), I1 [a0] w ∧
 ∀ (e1 : Nat → Value) w1, I1 [e1 0] w1 → (fun w =>
 o pr E w (sCall (Fu n_rl_TypeOf) [(e1 0)]) fun t17 w =>
 o pr E w (sInvoke t17 "AssignableTo" [a3]) fun t19 w =>
 condP t19 (o pr E w (sLoad 115 t6) fun t20 w =>
 o pr E w (sCall (Fu n_rl_Value_Elem) [t20]) fun t21 w =>
 o pr E w (sCall (Fu n_rl_ValueOf) [(e1 0)]) fun t23 w =>
 o pr E w (sCall (Fu n_rl_Value_Set) [t21, t23]) fun _ w =>
 K (Value.bool true) w)
  (o pr E w (sAssert (e1 0) 36 188 true) fun t27 w =>
 o pr E w (sExt t27 0) fun t28 w =>
 o pr E w (sExt t27 1) fun t29 w =>
 (fun (k5 : Value → World → Prop) =>
 condG t29 true (o pr E w (sInvoke t28 "As" [a1]) fun t34 w =>
 o pr E w (sPick t29 t34 (Value.bool false)) fun t35_1 w =>
 k5 t35_1 w)
  (o pr E w (sPick t29 undef (Value.bool false)) fun t35_2 w =>
 k5 t35_2 w))
 (fun t35 w =>
 condP t35 (K (Value.bool true) w)
  (o pr E w (sAssert (e1 0) 36 191 true) fun t37 w =>
 o pr E w (sExt t37 1) fun t38 w =>
 o pr E w (sExt t37 0) fun t39 w =>
 condP t38 (o pr E w (sInvoke t39 "Unwrap" []) fun t41 w =>
 o pr E w (sBinC .eql 36 t41 (Value.nilIface) 36) fun t43 w =>
 condP t43 (K (Value.bool false) w)
  (I1 [t41] w ∧ m1 [t41] w < m1 [e1 0] w1))
  (o pr E w (sAssert (e1 0) 36 193 true) fun t44 w =>
 o pr E w (sExt t44 1) fun t45 w =>
 o pr E w (sExt t44 0) fun t46 w =>
 condP t45 (o pr E w (sInvoke t46 "Unwrap" []) fun t48 w =>
 o pr E w (sB .len [194] 3 [t48]) fun t49 w =>
 ∃ (I2 : List Value → World → Prop) (m2 : List Value → World → Nat), I2 [(Value.int IntKind.i64 0)] w ∧
 ∀ (e2 : Nat → Value) w2, I2 [e2 50] w2 → (fun w =>
 o pr E w (sBin .lss 3 (e2 50) t49 3) fun t51 w =>
 ∃ j3 : List Value → World → Prop, (∀ (e3 : Nat → Value) w, j3 [] w →
 o pr E w (sBinC .add 3 (e2 50) (Value.int IntKind.i64 1) 3) fun t61 w =>
 I2 [t61] w ∧ m2 [t61] w < m2 [e2 50] w2) ∧
 condP t51 (o pr E w (sIA 194 t48 (e2 50)) fun t52 w =>
 o pr E w (sLoad 36 t52) fun t53 w =>
 o pr E w (sBinC .eql 36 t53 (Value.nilIface) 36) fun t55 w =>
 condP t55 (j3 [] w)
  (o pr E w (sLoad 115 t6) fun t58 w =>
 cl pr E w n_errors_as #[t53, a1, t58, a3] fun t60 w =>
 condP t60 (K (Value.bool true) w)
  (j3 [] w)))
  (K (Value.bool false) w)) w2)
  (K (Value.bool false) w)))))) w1
def lv_errors_as : Lives := [(1, [0, 1, 3, 6]), (2, [0, 1, 3, 6, 19]), (3, []), (4, [0, 1, 3, 6]), (5, [0, 1, 3, 6, 9, 10]), (6, [0, 1, 3, 6, 35]), (7, [0, 1, 3, 6]), (9, []), (10, [1, 3, 6, 36]), (11, [1, 3, 6, 36, 38, 39]), (12, [1, 3, 6, 11]), (13, [0, 1, 3, 6]), (14, [0, 1, 3, 6, 43]), (16, [1, 3, 6, 36, 45, 46]), (17, [1, 3, 6, 12]), (18, [1, 3, 6, 48, 49, 50]), (19, [1, 3, 6, 48, 49, 50, 51]), (20, [1, 3, 6, 14, 48, 49, 50]), (21, [1, 3, 6, 14, 48, 49, 50]), (22, [1, 3, 6, 48, 49, 50, 60]), (23, [1, 3, 6, 48, 49, 50]), (24, [])]
theorem sh_errors_as_ok (a0 a1 a2 a3 : Value) (w : World) (R : Ending → World → Prop)
 (h : sh_errors_as (fun v w => R (.returned v) w) (fun c w => R (.panicked c) w) a0 a1 a2 a3 w) : Calls pr n_errors_as #[a0, a1, a2, a3] w R :=
 calls_of_W (A := lv_errors_as) enters mixed Go.Proofs.Tryz.func35 (by kernel_rfl) (by kernel_rfl) (by kernel_rfl)
  (Eq.mp (by kernel_rfl) h)
def sh_law_num (K : Value → World → Prop) (_E : PanicK) (a0 : Value) (w : World) : Prop :=
 K a0 w
def lv_law_num : Lives := [(1, [0])]
theorem sh_law_num_ok (a0 : Value) (w : World) (R : Ending → World → Prop)
 (h : sh_law_num (fun v w => R (.returned v) w) (fun c w => R (.panicked c) w) a0 w) : Calls pr n_law_num #[a0] w R :=
 calls_of_W (A := lv_law_num) enters mixed Go.Proofs.Tryz.func14 (by kernel_rfl) (by kernel_rfl) (by kernel_rfl)
  (Eq.mp (by kernel_rfl) h)
def sh_api_Place_Where (K : Value → World → Prop) (E : PanicK) (a0 : Value) (w : World) : Prop :=
 o pr E w (sBox 77 a0) fun t1 w =>
 o pr E w (sFA 77 t1 0) fun t3 w =>
 o pr E w (sLoad 3 t3) fun t4 w =>
 K t4 w
def lv_api_Place_Where : Lives := [(1, [1])]
theorem sh_api_Place_Where_ok (a0 : Value) (w : World) (R : Ending → World → Prop)
 (h : sh_api_Place_Where (fun v w => R (.returned v) w) (fun c w => R (.panicked c) w) a0 w) : Calls pr n_api_Place_Where #[a0] w R :=
 calls_of_W (A := lv_api_Place_Where) enters mixed Go.Proofs.Tryz.func22 (by kernel_rfl) (by kernel_rfl) (by kernel_rfl)
  (Eq.mp (by kernel_rfl) h)
end Go.Inv
namespace Go.Inv
open Go.Sh
theorem ag51 : aggT pr 51 = some 2 := by kernel_rfl
theorem ag107 : aggT pr 107 = some 2 := by kernel_rfl
theorem fo107_0 : fieldOff pr 107 0 = some 0 := by kernel_rfl
theorem fo107_1 : fieldOff pr 107 1 = some 1 := by kernel_rfl
theorem fo111_0 : fieldOff pr 111 0 = some 0 := by kernel_rfl
def RT5 := (And.intro (And.intro (And.intro (And.intro (rLoad pl3) (And.intro (raLoad pl3) (rkLoad pl3))) (And.intro (rStore pl3) (And.intro (rLoad pl22) (raLoad pl22)))) (And.intro (And.intro (rkLoad pl22) (And.intro (rStore pl22) (rLoadA ag51))) (And.intro (raLoadA ag51) (And.intro (rkLoadA ag51) (rStoreA ag51))))) (And.intro (And.intro (And.intro (rLoadA ag107) (And.intro (raLoadA ag107) (rkLoadA ag107))) (And.intro (rStoreA ag107) (And.intro (rFA fo107_0) (rzFA fo107_0)))) (And.intro (And.intro (rFA fo107_1) (And.intro (rzFA fo107_1) (rFA fo111_0))) (And.intro (rzFA fo111_0) (And.intro (rLenL il22) (rzLenL il22))))))
def sh_ds_Only (K : Value → World → Prop) (E : PanicK) (a0 a1 : Value) (w : World) : Prop :=
 o pr E w (sBox 111 a0) fun _ w =>
 o pr E w (sAlloc 107) fun t4 w =>
 o pr E w (sBuild 107 [(0, a1), (1, a1)]) fun t7 w =>
 o pr E w (sStore 107 t4 t7) fun _ w =>
 rs pr w t4 107 fun v0_0 =>
 K v0_0 w
def lv_ds_Only : Lives := [(1, [1, 4])]
theorem sh_ds_Only_ok (a0 a1 : Value) (w : World) (R : Ending → World → Prop)
 (h : sh_ds_Only (fun v w => R (.returned v) w) (fun c w => R (.panicked c) w) a0 a1 w) : Calls pr n_ds_Only #[a0, a1] w R :=
 calls_of_W (A := lv_ds_Only) enters mixed Go.Proofs.Tryz.func130 (by kernel_rfl) (by kernel_rfl) (by kernel_rfl)
  (Eq.mp (by kernel_rfl) h)
def sh_ds_Whole (K : Value → World → Prop) (E : PanicK) (a0 : Value) (w : World) : Prop :=
 o pr E w (sBox 111 a0) fun _ w =>
 o pr E w (sAlloc 107) fun t2 w =>
 o pr E w (sBuild 107 [(0, (Value.int IntKind.i64 (-32768))), (1, (Value.int IntKind.i64 32767))]) fun t3 w =>
 o pr E w (sStore 107 t2 t3) fun _ w =>
 rs pr w t2 107 fun v0_0 =>
 K v0_0 w
def lv_ds_Whole : Lives := [(1, [2])]
theorem sh_ds_Whole_ok (a0 : Value) (w : World) (R : Ending → World → Prop)
 (h : sh_ds_Whole (fun v w => R (.returned v) w) (fun c w => R (.panicked c) w) a0 w) : Calls pr n_ds_Whole #[a0] w R :=
 calls_of_W (A := lv_ds_Whole) enters mixed Go.Proofs.Tryz.func133 (by kernel_rfl) (by kernel_rfl) (by kernel_rfl)
  (Eq.mp (by kernel_rfl) h)
end Go.Inv
namespace Go.Inv
open Go.Sh
def Is (v : Value) (w0 : World) : Ending → World → Prop := fun e w' => e = .returned v ∧ w' = w0
structure Out (w w' : World) : Prop where
 os : w'.os = w.os
 output : w'.output = w.output
theorem Out.refl (w : World) : Out w w := ⟨rfl, rfl⟩
theorem Out.trans {a b c : World} (h : Out a b) (g : Out b c) : Out a c := ⟨g.os.trans h.os, g.output.trans h.output⟩
theorem Out.dr {a b : World} (h : Out a b) : Out a (dr b) := ⟨h.os, h.output⟩
theorem Out.alloc {a b : World} (h : Out a b) (x : Obj) : Out a (b.alloc x) := ⟨h.os, h.output⟩
theorem Out.put {a b : World} (h : Out a b) {k i : Nat} {v : Value} : Out a (Sh.put b k i v) := ⟨h.os, h.output⟩
theorem Out.grown {a b c : World} {row : Option Nat} (h : Out a b) (hg : b.grownBy c row) : Out a c := ⟨hg.os.trans h.os, hg.output.trans h.output⟩
structure Fr (B r p : Nat) (w w' : World) : Prop where
 size : w.heap.size ≤ w'.heap.size
 old : ∀ c, c < B → w'.heap[c]? = w.heap[c]?
 keep : ∀ c cs t f, w.heap[c]? = some (.cells cs t f) → t ≠ tyInt → c ≠ r → c ≠ p → w'.heap[c]? = some (.cells cs t f)
 other : ∀ (c : Nat) (x : Obj), w.heap[c]? = some x → (∀ cs t f, x ≠ Obj.cells cs t f) → w'.heap[c]? = some x
 out : Out w w'
theorem setObj'_other {i : Nat} {v : Value} {x : Obj} (h : ∀ cs t f, x ≠ .cells cs t f) : setObj' i v x = x := by
 cases x <;> first | rfl | exact absurd rfl (h _ _ _)
theorem Fr.refl (B r p : Nat) (w : World) : Fr B r p w w := ⟨Nat.le_refl _, fun _ _ => rfl, fun _ _ _ _ h _ _ _ => h, fun _ _ h _ => h, .refl _⟩
theorem Fr.trans {B r p : Nat} {w1 w2 w3 : World} (h : Fr B r p w1 w2) (g : Fr B r p w2 w3) : Fr B r p w1 w3 :=
 ⟨Nat.le_trans h.size g.size, fun c hc => (g.old c hc).trans (h.old c hc), fun c cs t f h1 h2 h3 h4 => g.keep c cs t f (h.keep c cs t f h1 h2 h3 h4) h2 h3 h4, fun c x h1 h2 => g.other c x (h.other c x h1 h2) h2, h.out.trans g.out⟩
theorem Fr.dr {B r p : Nat} {w1 w2 : World} (h : Fr B r p w1 w2) : Fr B r p w1 (dr w2) := ⟨h.size, h.old, h.keep, h.other, h.out.dr⟩
theorem Fr.alloc {B r p : Nat} {w1 w2 : World} (h : Fr B r p w1 w2) (hB : B ≤ w1.heap.size) (x : Obj) : Fr B r p w1 (w2.alloc x) := by
 have hs := h.size
 refine ⟨by rw [size_alloc]; omega, fun c hc => ?_, fun c cs t f h1 h2 h3 h4 => ?_, fun c y h1 h2 => ?_, h.out.alloc _⟩
 ·rw [heap_alloc_ne (by omega)]; exact h.old c hc
 ·have := h.keep c cs t f h1 h2 h3 h4
  have hc : c < w2.heap.size := (Array.getElem?_eq_some_iff.1 this).1
  rw [heap_alloc_ne (by omega)]; exact this
 ·have := h.other c y h1 h2
  have hc : c < w2.heap.size := (Array.getElem?_eq_some_iff.1 this).1
  rw [heap_alloc_ne (by omega)]; exact this
theorem Fr.put {B r p b i : Nat} {v : Value} {w1 w2 : World} (h : Fr B r p w1 w2) (hB : B ≤ b) (hb : b = r ∨ b = p ∨ w1.heap.size ≤ b) : Fr B r p w1 (put w2 b i v) := by
 refine ⟨by rw [size_put]; exact h.size, fun c hc => ?_, fun c cs t f h1 h2 h3 h4 => ?_, fun c y h1 h2 => ?_, h.out.put⟩
 ·rw [heap_put_ne (by omega)]; exact h.old c hc
 ·have hlt : c < w1.heap.size := (Array.getElem?_eq_some_iff.1 h1).1
  rw [heap_put_ne (by rcases hb with hb | hb | hb <;> omega)]
  exact h.keep c cs t f h1 h2 h3 h4
 ·have := h.other c y h1 h2
  by_cases hc : c = b
  ·subst hc; rw [heap_put_self, this, Option.map_some, setObj'_other h2]
  ·rw [heap_put_ne hc]; exact this
def NumsAt (B : Nat) (w : World) (v : Value) (l : List Nat) : Prop := w.ownsRow B tyInt 1 v l.length (l.map fun n : Nat => vi n)
def relsV : Array Value := #[.string (S [60]), .string (S [62, 61]), .string (S [60, 61]), .string (S [62]), .string (S [61, 61]), .string (S [33, 61])]
def RelsAt (w : World) : Prop := ∃ t f, w.heap[gRels]? = some (.cells relsV t f)
structure RdAt (src : Bytes) (B r p : Nat) (w : World) (st : RS) : Prop where
 rd : w.heap[r]? = some (.cells #[.string (S src), vi st.at_, vi st.en, vi st.op, pt p 0] tyReader (0, 0))
 pg : ∃ nv, w.heap[p]? = some (.cells #[.slice none 0 0, vi st.points, vi st.sites, nv] tyProg (0, 0)) ∧ NumsAt B w nv st.nums
 rB : B ≤ r
 pB : B ≤ p
 rp : r ≠ p
 rl : RelsAt w
 gB : gRels < B
theorem RdAt.dr {src : Bytes} {B r p : Nat} {w : World} {st : RS} (h : RdAt src B r p w st) : RdAt src B r p (dr w) st := ⟨h.rd, h.pg, h.rB, h.pB, h.rp, h.rl, h.gB⟩
theorem lt_of_heap {w : World} {c : Nat} {x : Obj} (h : w.heap[c]? = some x) : c < w.heap.size := (Array.getElem?_eq_some_iff.1 h).1
theorem NumsAt.keep {B : Nat} {w w' : World} {v : Value} {l : List Nat} (h : NumsAt B w v l) (hk : ∀ (c : Nat) (cs : Array Value), w.heap[c]? = some (Obj.cells cs tyInt (0, 0)) → w'.heap[c]? = some (Obj.cells cs tyInt (0, 0))) : NumsAt B w' v l := by
 refine ⟨h.1, ?_⟩
 rcases h.2 with h | ⟨nb, cap, c, h1, h2, h3, h4⟩
 ·exact .inl h
 ·exact .inr ⟨nb, cap, c, h1, h2, hk _ _ h3, h4⟩
theorem RdAt.put_rd {src : Bytes} {B r p : Nat} {w : World} {st st' : RS} (h : RdAt src B r p w st) {i : Nat} {v : Value}
 (hc : #[.string (S src), vi st.at_, vi st.en, vi st.op, pt p 0].setIfInBounds i v = #[.string (S src), vi st'.at_, vi st'.en, vi st'.op, pt p 0])
 (h1 : st'.points = st.points) (h2 : st'.sites = st.sites) (h3 : st'.nums = st.nums) : RdAt src B r p (put w r i v) st' := by
 obtain ⟨nv, hp, hn⟩ := h.pg
 refine ⟨?_, ⟨nv, ?_, ?_⟩, h.rB, h.pB, h.rp, ?_, h.gB⟩
 ·rw [heap_put_self, h.rd, map_setObj, hc]
 ·rw [heap_put_ne h.rp.symm, hp, h1, h2]
 ·rw [h3]
  refine hn.keep fun c cs hcs => ?_
  have : c ≠ r := fun e => by rw [e, h.rd] at hcs; cases hcs
  rw [heap_put_ne this, hcs]
 ·obtain ⟨t, f, hl⟩ := h.rl
  have h1 := h.rB; have h2 := h.gB
  exact ⟨t, f, by rw [heap_put_ne (by omega)]; exact hl⟩
theorem RdAt.put_en {src : Bytes} {B r p : Nat} {w : World} {st : RS} (h : RdAt src B r p w st) (n : Nat) : RdAt src B r p (put w r 2 (vi n)) { st with en := n } :=
 h.put_rd rfl rfl rfl rfl
theorem RdAt.put_at {src : Bytes} {B r p : Nat} {w : World} {st : RS} (h : RdAt src B r p w st) (n : Nat) : RdAt src B r p (put w r 1 (vi n)) { st with at_ := n } :=
 h.put_rd rfl rfl rfl rfl
theorem RdAt.put_op {src : Bytes} {B r p : Nat} {w : World} {st : RS} (h : RdAt src B r p w st) (n : Nat) : RdAt src B r p (put w r 3 (vi n)) { st with op := n } :=
 h.put_rd rfl rfl rfl rfl
theorem RdAt.put_pg {src : Bytes} {B r p : Nat} {w : World} {st st' : RS} (h : RdAt src B r p w st) {i : Nat} {v : Value}
 (hc : ∀ nv, #[.slice none 0 0, vi st.points, vi st.sites, nv].setIfInBounds i v = #[.slice none 0 0, vi st'.points, vi st'.sites, nv])
 (h1 : st'.at_ = st.at_) (h2 : st'.en = st.en) (h3 : st'.op = st.op) (h4 : st'.nums = st.nums) : RdAt src B r p (put w p i v) st' := by
 obtain ⟨nv, hp, hn⟩ := h.pg
 refine ⟨?_, ⟨nv, ?_, ?_⟩, h.rB, h.pB, h.rp, ?_, h.gB⟩
 ·rw [heap_put_ne h.rp, h.rd, h1, h2, h3]
 ·rw [heap_put_self, hp, map_setObj, hc]
 ·rw [h4]
  refine hn.keep fun c cs hcs => ?_
  have : c ≠ p := fun e => by rw [e, hp] at hcs; cases hcs
  rw [heap_put_ne this, hcs]
 ·obtain ⟨t, f, hl⟩ := h.rl
  have h1 := h.pB; have h2 := h.gB
  exact ⟨t, f, by rw [heap_put_ne (by omega)]; exact hl⟩
theorem RdAt.put_points {src : Bytes} {B r p : Nat} {w : World} {st : RS} (h : RdAt src B r p w st) (n : Nat) : RdAt src B r p (put w p 1 (vi n)) { st with points := n } :=
 h.put_pg (fun _ => rfl) rfl rfl rfl rfl
theorem RdAt.put_sites {src : Bytes} {B r p : Nat} {w : World} {st : RS} (h : RdAt src B r p w st) (n : Nat) : RdAt src B r p (put w p 2 (vi n)) { st with sites := n } :=
 h.put_pg (fun _ => rfl) rfl rfl rfl rfl
theorem RdAt.alloc {src : Bytes} {B r p : Nat} {w : World} {st : RS} (h : RdAt src B r p w st) (x : Obj) : RdAt src B r p (w.alloc x) st := by
 obtain ⟨nv, hp, hn⟩ := h.pg
 have hr := lt_of_heap h.rd
 have hp' := lt_of_heap hp
 refine ⟨?_, ⟨nv, ?_, ?_⟩, h.rB, h.pB, h.rp, ?_, h.gB⟩
 ·rw [heap_alloc_ne (by omega), h.rd]
 ·rw [heap_alloc_ne (by omega), hp]
 ·refine hn.keep fun c cs hcs => ?_
  have := lt_of_heap hcs
  rw [heap_alloc_ne (by omega), hcs]
 ·obtain ⟨t, f, hl⟩ := h.rl
  have := lt_of_heap hl
  exact ⟨t, f, by rw [heap_alloc_ne (by omega)]; exact hl⟩
theorem RdAt.B_le {src : Bytes} {B r p : Nat} {w : World} {st : RS} (h : RdAt src B r p w st) : B ≤ w.heap.size := by
 have := lt_of_heap h.rd; have := h.rB; omega
end Go.Inv
namespace Go.Inv
open Go.Sh
abbrev vb (c : UInt8) : Value := .int .u8 (c.toNat : Int)
theorem letterB_int (c : UInt8) : letterB c = (decide ((97 : Int) ≤ (c.toNat : Int)) && decide ((c.toNat : Int) ≤ 122)) := by
 rw [Bool.eq_iff_iff]; simp [letterB]; omega
theorem digitB_int (c : UInt8) : digitB c = (decide ((48 : Int) ≤ (c.toNat : Int)) && decide ((c.toNat : Int) ≤ 57)) := by
 rw [Bool.eq_iff_iff]; simp [digitB]; omega
theorem letter_ok (c : UInt8) (w : World) : Calls pr n_text_letter #[vb c] w (Is (.bool (letterB c)) (w)) := by
 refine sh_text_letter_ok _ _ _ ?_
 unfold sh_text_letter
 simp only [↓RG, RV]
 rw [letterB_int]
 refine condG_split (fun h => ?_) (fun h => ?_)
 ·rw [h]; simp only [↓RG, RV, cond_true]; exact ⟨rfl, rfl⟩
 ·rw [ne_eq, Bool.not_eq_true] at h; rw [h]; simp only [↓RG, RV, cond_false]; exact ⟨rfl, rfl⟩
theorem digit_ok (c : UInt8) (w : World) : Calls pr n_text_digit #[vb c] w (Is (.bool (digitB c)) (w)) := by
 refine sh_text_digit_ok _ _ _ ?_
 unfold sh_text_digit
 simp only [↓RG, RV]
 rw [digitB_int]
 refine condG_split (fun h => ?_) (fun h => ?_)
 ·rw [h]; simp only [↓RG, RV, cond_true]; exact ⟨rfl, rfl⟩
 ·rw [ne_eq, Bool.not_eq_true] at h; rw [h]; simp only [↓RG, RV, cond_false]; exact ⟨rfl, rfl⟩
theorem piece_tok (src : Bytes) (st : RS) : piece src st.at_ st.en = tok src st := by simp [piece, tok]
theorem token_ok {src : Bytes} {B r p : Nat} {w : World} {st : RS} (h : RdAt src B r p w st) (h2 : st.at_ ≤ st.en) (h3 : st.en ≤ src.length) :
 Calls pr n_rd_token #[pt r 0] w (Is (.string (S (tok src st))) (dr w)) := by
 have hr := h.rd
 refine sh_rd_token_ok _ _ _ ?_
 unfold sh_rd_token
 have hc : strCut src st.at_ st.en = some (.string (S (tok src st))) := by
  rw [← piece_tok]; unfold strCut; rw [if_pos (by omega)]
 simp only [↓RT, ↓RG, RV, hr, hc]
 exact ⟨rfl, rfl⟩
end Go.Inv
namespace Go.Inv
open Go.Sh
def runTo (f : UInt8 → Bool) (src : Bytes) (i : Nat) : Nat := i + ((src.drop i).takeWhile f).length
theorem runTo_step {f : UInt8 → Bool} {src : Bytes} {i : Nat} {c : UInt8} (h : src[i]? = some c) (hc : f c = true) : runTo f src i = runTo f src (i + 1) := by
 have hi : i < src.length := (List.getElem?_eq_some_iff.1 h).1
 have : src.drop i = c :: src.drop (i + 1) := by
  rw [List.drop_eq_getElem_cons hi]; congr 1
  exact (List.getElem?_eq_some_iff.1 h).2
 unfold runTo
 rw [this, List.takeWhile_cons, if_pos hc, List.length_cons]
 omega
theorem runTo_stop {f : UInt8 → Bool} {src : Bytes} {i : Nat} {c : UInt8} (h : src[i]? = some c) (hc : f c = false) : runTo f src i = i := by
 have hi : i < src.length := (List.getElem?_eq_some_iff.1 h).1
 have : src.drop i = c :: src.drop (i + 1) := by
  rw [List.drop_eq_getElem_cons hi]; congr 1
  exact (List.getElem?_eq_some_iff.1 h).2
 unfold runTo
 rw [this, List.takeWhile_cons, hc]
 simp
theorem runTo_end {f : UInt8 → Bool} {src : Bytes} {i : Nat} (h : src.length ≤ i) : runTo f src i = i := by
 unfold runTo; rw [List.drop_eq_nil_of_le h]; simp
theorem strAt_nat {src : Bytes} {i : Nat} {c : UInt8} (h : src[i]? = some c) : strAt src (i : Int) = some (vb c) := by
 unfold strAt; rw [if_pos (by omega)]; simp [h]
def Rd1 (src : Bytes) (B r p : Nat) (w : World) (v : Value) (st : RS) : Ending → World → Prop := fun e w' =>
 e = .returned v ∧ Fr B r p w w' ∧ RdAt src B r p w' st
def enOf (r : Nat) (w : World) : Nat := match blkCell (w.heap[r]?) 2 with
 | some (.int _ n) => n.toNat
 | _ => 0
theorem next1_ok {src : Bytes} {B r p bx nf : Nat} {w : World} {st : RS} {f : UInt8 → Bool} (h : RdAt src B r p w st) (hlen : st.en ≤ src.length) (hsm : src.length ≤ 400)
 (hbx : w.heap[bx]? = some (.cells #[pt r 0] tyReaderP (0, 0))) (hnf : okFn pr nf = true) (hof : ∀ c w, Calls pr nf #[vb c] w (Is (.bool (f c)) w)) :
 Calls pr n_rd_next_1 #[Fu nf, pt bx 0] w (Rd1 src B r p w (.tuple #[]) { st with en := runTo f src st.en }) := by
 refine sh_rd_next_1_ok _ _ _ _ ?_
 unfold sh_rd_next_1
 refine ⟨fun _ w' => ∃ k, k ≤ src.length ∧ RdAt src B r p w' { st with en := k } ∧ Fr B r p w w' ∧ runTo f src k = runTo f src st.en, fun _ w' => src.length - enOf r w', ⟨st.en, hlen, h, Fr.refl _ _ _ _, rfl⟩, ?_⟩
 rintro _ w1 ⟨k, hk, hrd, hfr, hrun⟩
 have hr := hrd.rd
 have hb : w1.heap[bx]? = some (.cells #[pt r 0] tyReaderP (0, 0)) := by
  refine hfr.keep _ _ _ _ hbx (by decide) ?_ ?_
  ·intro e; rw [e, h.rd] at hbx; cases hbx
  ·intro e; obtain ⟨_, hp, _⟩ := h.pg; rw [e, hp] at hbx; cases hbx
 simp only [↓RT, ↓RG, RV, hr, hb]
 by_cases hlt : k < src.length
 ·obtain ⟨c, hc⟩ : ∃ c, src[k]? = some c := ⟨src[k], by simp [hlt]⟩
  have hd : decide ((k : Int) < (src.length : Int)) = true := by simp [hlt]
  simp only [hd, ↓RT, ↓RG, RV, hr, hb, strAt_nat hc, ↓rCallF hnf]
  refine cl_of (hof c _) ?_
  rintro e w2 ⟨rfl, rfl⟩
  simp only [endK, cond_true]
  cases hfc : f c with
  | true =>
    have hw : IntKind.i64.wrap ((k : Int) + 1) = ((k + 1 : Nat) : Int) := by rw [wrap64 (by omega) (by omega)]; omega
    simp only [↓RT, ↓RG, RV, hr, hb, hw]
    refine ⟨⟨k + 1, by omega, ?_, ?_, ?_⟩, ?_⟩
    ·exact hrd.dr.put_en (k + 1)
    ·exact hfr.dr.put h.rB (.inl rfl)
    ·rw [← runTo_step hc hfc]; exact hrun
    ·unfold enOf
     rw [heap_put_self, heap_dr, hr]
     simp [setObj', blkCell]
     omega
  | false =>
    simp only [↓RT, ↓RG, RV]
    refine ⟨rfl, hfr.dr, ?_⟩
    have : runTo f src st.en = k := by rw [← hrun]; exact runTo_stop hc hfc
    rw [this]; exact hrd.dr
 ·have hd : decide ((k : Int) < (src.length : Int)) = false := by simp; omega
  simp only [hd, ↓RT, ↓RG, RV, cond_false]
  refine ⟨rfl, hfr.dr, ?_⟩
  have : runTo f src st.en = k := by rw [← hrun]; exact runTo_end (by omega)
  rw [this]; exact hrd.dr
end Go.Inv
namespace Go.Inv
open Go.Sh
theorem bq (c d : UInt8) : (((c.toNat : Nat) : Int) == ((d.toNat : Nat) : Int)) = (c == d) := by
 rw [Bool.eq_iff_iff, beq_iff_eq, beq_iff_eq]
 constructor
 ·intro h; exact UInt8.toNat_inj.1 (by omega)
 ·intro h; rw [h]
theorem bqs (c : UInt8) : (((c.toNat : Int) == 60) = (c == 60)) ∧ (((c.toNat : Int) == 62) = (c == 62)) ∧ (((c.toNat : Int) == 61) = (c == 61)) ∧ (((c.toNat : Int) == 33) = (c == 33)) ∧
 (((c.toNat : Int) == 43) = (c == 43)) ∧ (((c.toNat : Int) == 45) = (c == 45)) ∧ (((c.toNat : Int) == 42) = (c == 42)) ∧ (((c.toNat : Int) == 47) = (c == 47)) ∧ (((c.toNat : Int) == 37) = (c == 37)) ∧
 (((c.toNat : Int) == 40) = (c == 40)) ∧ (((c.toNat : Int) == 41) = (c == 41)) ∧ (((c.toNat : Int) == 123) = (c == 123)) ∧ (((c.toNat : Int) == 125) = (c == 125)) ∧ (((c.toNat : Int) == 59) = (c == 59)) ∧
 (((c.toNat : Int) == 32) = (c == 32)) ∧ (((c.toNat : Int) == 10) = (c == 10)) :=
 ⟨bq c 60, bq c 62, bq c 61, bq c 33, bq c 43, bq c 45, bq c 42, bq c 47, bq c 37, bq c 40, bq c 41, bq c 123, bq c 125, bq c 59, bq c 32, bq c 10⟩
theorem strAt_lit0 (c : UInt8) (r : Bytes) : strAt (c :: r) 0 = some (vb c) := rfl
theorem strAt_lit1 (c d : UInt8) (r : Bytes) : strAt (c :: d :: r) 1 = some (vb d) := rfl
theorem sign_ok (c : UInt8) (r : Bytes) (w : World) : Calls pr n_text_sign #[.string (S (c :: r))] w (Is (vi (signLen (c :: r))) w) := by
 refine sh_text_sign_ok _ _ _ ?_
 unfold sh_text_sign
 have hK : ∀ (n : Nat), signLen (c :: r) = n → Is (vi (signLen (c :: r))) w (.returned (vi n)) w := fun n h => by rw [h]; exact ⟨rfl, rfl⟩
 generalize hR : Is (vi (signLen (c :: r))) w = R at hK ⊢
 refine ⟨fun _ w' => w' = w ∧ signLen (c :: r) = 0, ?_, ?_⟩
 ·rintro _ w' ⟨rfl, h⟩; exact hK 0 h
 simp only [↓RT, ↓RG, RV, strAt_lit0]
 refine ⟨fun vs w' => vs = [.bool (c == 60 || c == 62 || c == 61)] ∧ w' = w, ?_, ?_⟩
 ·rintro e w' ⟨he, rfl⟩
  have he5 : e 5 = .bool (c == 60 || c == 62 || c == 61) := by simpa using he
  rw [he5]
  refine condP_split (fun h => ?_) (fun h => ?_)
  ·cases r with
   | nil =>
     simp only [↓RT, ↓RG, RV, List.length_cons, List.length_nil]
     simp only [show decide ((((0 + 1 : Nat) : Int)) > 1) = false from rfl, ↓RT, ↓RG, RV, cond_false]
     exact hK 1 (by simp only [signLen, h]; rfl)
   | cons d r =>
     have hl : decide ((((c :: d :: r).length : Nat) : Int) > 1) = true := by simp; omega
     simp only [↓RT, ↓RG, RV, hl, strAt_lit1, bqs, cond_true]
     refine condP_split (fun h1 => ?_) (fun h1 => ?_)
     ·exact hK 2 (by simp only [signLen, h, List.head?_cons]; simp at h1; simp [h1])
     ·exact hK 1 (by simp only [signLen, h, List.head?_cons]; simp at h1; simp [h1])
  ·simp only [↓RT, ↓RG, RV, bqs]
   refine condP_split (fun h2 => ?_) (fun h2 => ?_)
   ·cases r with
    | nil =>
      simp only [↓RT, ↓RG, RV, List.length_cons, List.length_nil]
      simp only [show decide ((((0 + 1 : Nat) : Int)) > 1) = false from rfl, ↓RT, ↓RG, RV, cond_false]
      exact hK 0 (by simp only [signLen, h, h2]; rfl)
    | cons d r =>
      have hl : decide ((((c :: d :: r).length : Nat) : Int) > 1) = true := by simp; omega
      simp only [↓RT, ↓RG, RV, hl, strAt_lit1, bqs, cond_true]
      refine condP_split (fun h1 => ?_) (fun h1 => ?_)
      ·exact hK 2 (by simp only [signLen, h, h2, List.head?_cons]; simp at h1; simp [h1])
      ·exact hK 0 (by simp only [signLen, h, h2, List.head?_cons]; simp at h1; simp [h1])
   ·refine ⟨fun vs w'' => vs = [.bool (c == 43 || c == 45 || c == 42 || c == 47 || c == 37 || c == 40 || c == 41 || c == 123 || c == 125 || c == 59)] ∧ w'' = w', ?_, ?_⟩
    ·rintro e w'' ⟨he, rfl⟩
     have he5 : e 27 = .bool (c == 43 || c == 45 || c == 42 || c == 47 || c == 37 || c == 40 || c == 41 || c == 123 || c == 125 || c == 59) := by simpa using he
     rw [he5]
     refine condP_split (fun h3 => ?_) (fun h3 => ?_)
     ·exact hK 1 (by simp only [signLen, h, h2, h3]; rfl)
     ·exact ⟨rfl, by simp only [signLen, h, h2, h3]; rfl⟩
    ·repeat (first | exact ⟨by simp_all, rfl⟩ | exact ⟨by simp_all, trivial⟩ | refine condP_split (fun h3 => ?_) (fun h3 => ?_) | simp only [↓RT, ↓RG, RV, bqs])
 ·simp only [bqs]
  repeat (first | exact ⟨by simp_all, rfl⟩ | exact ⟨by simp_all, trivial⟩ | refine condP_split (fun h3 => ?_) (fun h3 => ?_) | simp only [↓RT, ↓RG, RV, bqs])
end Go.Inv
namespace Go.Inv
open Go.Sh
theorem blankB_eq (c : UInt8) : blankB c = (c == 32 || c == 10) := by
 unfold blankB
 rw [Bool.eq_iff_iff]
 simp only [Bool.or_eq_true, beq_iff_eq]
 constructor
 ·rintro (h | h)
  ·exact .inl (UInt8.toNat_inj.1 h)
  ·exact .inr (UInt8.toNat_inj.1 h)
 ·rintro (h | h) <;> rw [h] <;> simp
theorem cells_pt (b i : Nat) : (pt b i).cells = #[pt b i] := rfl
theorem skipB_eq (src : Bytes) (i : Nat) : skipB src i = runTo blankB src i := rfl
theorem tokLen_letter {src : Bytes} {k : Nat} {c : UInt8} (h : src[k]? = some c) (hc : letterB c = true) : k + tokLen (src.drop k) = runTo letterB src k := by
 have hk : k < src.length := (List.getElem?_eq_some_iff.1 h).1
 have : src.drop k = c :: src.drop (k + 1) := by
  rw [List.drop_eq_getElem_cons hk]; congr 1; exact (List.getElem?_eq_some_iff.1 h).2
 unfold runTo
 rw [this]; simp only [tokLen, hc, if_true]
theorem tokLen_digit {src : Bytes} {k : Nat} {c : UInt8} (h : src[k]? = some c) (hl : letterB c = false) (hc : digitB c = true) : k + tokLen (src.drop k) = runTo digitB src k := by
 have hk : k < src.length := (List.getElem?_eq_some_iff.1 h).1
 have : src.drop k = c :: src.drop (k + 1) := by
  rw [List.drop_eq_getElem_cons hk]; congr 1; exact (List.getElem?_eq_some_iff.1 h).2
 unfold runTo
 rw [this]; simp [tokLen, hc, hl]
theorem tokLen_sign {src : Bytes} {k : Nat} {c : UInt8} (h : src[k]? = some c) (hl : letterB c = false) (hc : digitB c = false) : tokLen (src.drop k) = signLen (c :: src.drop (k + 1)) ∧ src.drop k = c :: src.drop (k + 1) := by
 have hk : k < src.length := (List.getElem?_eq_some_iff.1 h).1
 have : src.drop k = c :: src.drop (k + 1) := by
  rw [List.drop_eq_getElem_cons hk]; congr 1; exact (List.getElem?_eq_some_iff.1 h).2
 rw [this]; exact ⟨by simp [tokLen, hc, hl], rfl⟩
theorem tokLen_nil {src : Bytes} {k : Nat} (h : src.length ≤ k) : tokLen (src.drop k) = 0 := by
 rw [List.drop_eq_nil_of_le h]; rfl
theorem ok_next1 : okFn pr n_rd_next_1 = true := by kernel_rfl
theorem ok_letter : okFn pr n_text_letter = true := by kernel_rfl
theorem ok_digit : okFn pr n_text_digit = true := by kernel_rfl
def BlI (src : Bytes) (w1 : World) (i0 : Nat) (vs : List Value) (w' : World) : Prop :=
 ∃ k : Nat, k ≤ src.length ∧ vs = [vi k] ∧ w' = w1 ∧ runTo blankB src k = runTo blankB src i0
def intAt : List Value → Nat
 | [.int _ n] => n.toNat
 | _ => 0
def BlM (src : Bytes) (vs : List Value) (_ : World) : Nat := src.length - intAt vs
theorem next_ok {src : Bytes} {B r p : Nat} {w : World} {st : RS} (h : RdAt src B r p w st) (hlen : st.en ≤ src.length) (hsm : src.length ≤ 400) :
 Calls pr n_rd_next #[pt r 0] w (Rd1 src B r p w (.tuple #[]) (nextS src st)) := by
 refine sh_rd_next_ok _ _ _ ?_
 unfold sh_rd_next
 simp only [↓RG, cells_pt]
 have hB := h.B_le
 have hne : w.heap.size ≠ r := by have := lt_of_heap h.rd; omega
 have hrd : RdAt src B r p (w.alloc (.cells #[pt r 0] tyReaderP)) st := h.alloc _
 have hfr : Fr B r p w (w.alloc (.cells #[pt r 0] tyReaderP)) := (Fr.refl _ _ _ _).alloc hB _
 have hb : (w.alloc (.cells #[pt r 0] tyReaderP)).heap[w.heap.size]? = some (.cells #[pt r 0] tyReaderP (0, 0)) := heap_alloc_self _
 generalize w.alloc (.cells #[pt r 0] tyReaderP) = w1 at hrd hfr hb ⊢
 generalize w.heap.size = bx at hne hb ⊢
 have hr := hrd.rd
 simp only [↓RT, ↓RG, RV, hr, hb]
 refine ⟨BlI src w1 st.en, BlM src, ⟨st.en, hlen, rfl, rfl, rfl⟩, ?_⟩
 rintro e w2 ⟨k, hk, he, rfl, hrun⟩
 have he2 : e 2 = vi (k : Nat) := by simpa using he
 rw [he2]
 -- behind the blanks
 have rest : ∀ (d : Prop), (runTo blankB src st.en = k) → True := fun _ _ => trivial
 by_cases hlt : k < src.length
 ·obtain ⟨c, hc⟩ : ∃ c, src[k]? = some c := ⟨src[k], by simp [hlt]⟩
  have hd : decide ((k : Int) < (src.length : Int)) = true := by simp [hlt]
  simp only [hd, ↓RT, ↓RG, RV, hr, hb, strAt_nat hc, bqs]
  cases h32 : c == 32 with
  | true =>
    have hw : IntKind.i64.wrap ((k : Int) + 1) = ((k + 1 : Nat) : Int) := by rw [wrap64 (by omega) (by omega)]; omega
    simp only [↓RT, ↓RG, RV, hr, hb, cond_true, hw]
    refine ⟨⟨k + 1, by omega, rfl, rfl, ?_⟩, ?_⟩
    ·rw [← runTo_step hc (by rw [blankB_eq, h32]; rfl)]; exact hrun
    ·simp [BlM, intAt]; omega
  | false =>
    simp only [↓RT, ↓RG, RV, hr, hb, cond_true, cond_false, strAt_nat hc, bqs]
    cases h10 : c == 10 with
    | true =>
      have hw : IntKind.i64.wrap ((k : Int) + 1) = ((k + 1 : Nat) : Int) := by rw [wrap64 (by omega) (by omega)]; omega
      simp only [↓RT, ↓RG, RV, hr, hb, cond_true, hw]
      refine ⟨⟨k + 1, by omega, rfl, rfl, ?_⟩, ?_⟩
      ·rw [← runTo_step hc (by rw [blankB_eq, h10]; simp)]; exact hrun
      ·simp [BlM, intAt]; omega
    | false =>
      have hk' : skipB src st.en = k := by rw [skipB_eq, ← hrun]; exact runTo_stop hc (by rw [blankB_eq, h32, h10]; rfl)
      have hne' : ((k : Int) == (src.length : Int)) = false := by simp; omega
      simp only [↓RT, ↓RG, RV, hr, hb, heap_put_ne hne, hne', strAt_nat hc, Nat.reduceAdd, Nat.reduceLT]
      have hrd2 : RdAt src B r p (put (put (dr w2) r 1 (vi (k : Nat))) r 2 (vi (k : Nat))) { st with at_ := k, en := k } := (hrd.dr.put_at k).put_en k
      have hfr2 : Fr B r p w (put (put (dr w2) r 1 (vi (k : Nat))) r 2 (vi (k : Nat))) := (hfr.dr.put h.rB (.inl rfl)).put h.rB (.inl rfl)
      have hb2 : (put (put (dr w2) r 1 (vi (k : Nat))) r 2 (vi (k : Nat))).heap[bx]? = some (.cells #[pt r 0] tyReaderP (0, 0)) := by
       rw [heap_put_ne hne, heap_put_ne hne, heap_dr, hb]
      generalize put (put (dr w2) r 1 (vi (k : Nat))) r 2 (vi (k : Nat)) = w3 at hrd2 hfr2 hb2 ⊢
      have hr2 := hrd2.rd
      refine cl_of (letter_ok c _) ?_
      rintro _ w4 ⟨rfl, rfl⟩
      simp only [endK]
      cases hl : letterB c with
      | true =>
        simp only [↓RT, ↓RG, RV, ↓rCallF ok_next1]
        refine cl_of (next1_ok (f := letterB) hrd2 (by exact Nat.le_of_lt hlt) hsm hb2 ok_letter letter_ok) ?_
        rintro _ w5 ⟨rfl, hfr5, hrd5⟩
        refine ⟨rfl, hfr2.trans hfr5, ?_⟩
        have e1 : nextS src st = { st with at_ := k, en := runTo letterB src k } := by
         unfold nextS; rw [hk', tokLen_letter hc hl]
        rw [e1]; exact hrd5
      | false =>
        simp only [↓RT, ↓RG, RV]
        refine cl_of (digit_ok c _) ?_
        rintro _ w4 ⟨rfl, rfl⟩
        simp only [endK]
        cases hdg : digitB c with
        | true =>
          simp only [↓RT, ↓RG, RV, ↓rCallF ok_next1]
          refine cl_of (next1_ok (f := digitB) hrd2 (by exact Nat.le_of_lt hlt) hsm hb2 ok_digit digit_ok) ?_
          rintro _ w5 ⟨rfl, hfr5, hrd5⟩
          refine ⟨rfl, hfr2.trans hfr5, ?_⟩
          have e1 : nextS src st = { st with at_ := k, en := runTo digitB src k } := by
           unfold nextS; rw [hk', tokLen_digit hc hl hdg]
          rw [e1]; exact hrd5
        | false =>
          obtain ⟨ht, hdrop⟩ := tokLen_sign hc hl hdg
          have hcut : strCut src k src.length = some (.string (S (c :: src.drop (k + 1)))) := by
           unfold strCut; rw [if_pos (by omega), ← hdrop]; simp [piece]
          simp only [↓RT, ↓RG, RV, hr2, hb2, hcut]
          refine cl_of (sign_ok c _ _) ?_
          rintro _ w5 ⟨rfl, rfl⟩
          simp only [endK]
          have hsl : signLen (c :: src.drop (k + 1)) ≤ 400 := by
           have h1 := signLen_le (c :: src.drop (k + 1)); have h2 := congrArg List.length hdrop; rw [List.length_drop] at h2; omega
          have hw : IntKind.i64.wrap ((k : Int) + (signLen (c :: src.drop (k + 1)) : Nat)) = ((k + signLen (c :: src.drop (k + 1)) : Nat) : Int) := by
           rw [wrap64 (by omega) (by omega)]; omega
          simp only [↓RT, ↓RG, RV, hr2, hb2, hw, Nat.reduceAdd, Nat.reduceLT]
          refine ⟨rfl, hfr2.dr.put h.rB (.inl rfl), ?_⟩
          have e1 : nextS src st = { st with at_ := k, en := k + signLen (c :: src.drop (k + 1)) } := by
           unfold nextS; rw [hk', ht]
          rw [e1]; exact hrd2.dr.put_en _
 ·have hkk : k = src.length := by omega
  have hk' : skipB src st.en = k := by rw [skipB_eq, ← hrun]; exact runTo_end (by omega)
  have hd : decide ((k : Int) < (src.length : Int)) = false := by simp; omega
  have he' : ((k : Int) == (src.length : Int)) = true := by simp; omega
  simp only [hd, ↓RT, ↓RG, RV, hr, hb, cond_false, heap_put_ne hne, he', Nat.reduceAdd, Nat.reduceLT]
  refine ⟨rfl, (hfr.dr.put h.rB (.inl rfl)).put h.rB (.inl rfl), ?_⟩
  have e1 : nextS src st = { st with at_ := k, en := k } := by
   unfold nextS; rw [hk', tokLen_nil (by omega)]; rfl
  rw [e1]; exact (hrd.dr.put_at k).put_en k
end Go.Inv
namespace Go.Inv
open Go.Sh
theorem o_build {t : TypeId} {l : List (Nat × Value)} {v : Value} (h : ∀ w, (sBuild t l).run pr w = .ok (.value v) w) : ∀ E w K, o pr E w (sBuild t l) K = K v w := fun _ w _ => o_val (h w)
theorem oz_build {t : TypeId} {l : List (Nat × Value)} {v : Value} (h : ∀ w, (sBuild t l).run pr w = .ok (.value v) w) : ∀ k, oz pr (sBuild t l) k = k v := fun _ => oz_val h
theorem bd_Place (n : Int) (w : World) : (sBuild tyPlace [(0, vi n)]).run pr w = .ok (.value (.agg #[vi n])) w := by kernel_rfl
theorem bd_Fault (n e : Int) (w : World) : (sBuild tyFault [(0, .agg #[vi n]), (1, vi e)]).run pr w = .ok (.value (.agg #[vi n, vi e])) w := by kernel_rfl
theorem run_sPanic (t : TypeId) (v : Value) (w : World) : (sPanic (.iface t v)).run pr w = .halt (.panic (.iface t v)) w := by
 simp [sPanic, opc, execOp, ev, Instr.panic, goPanic, Sem.run]
theorem rPanic : ∀ E w K t v, o pr E w (sPanic (.iface t v)) K = E [{ v := .iface t v, recovered := false }] w := fun _ _ _ _ _ => o_panic (run_sPanic _ _ _)
theorem cells_agg (c : Array Value) : (Value.agg c).cells = c := rfl
def FaultAt (w : World) (c : List PanicEntry) (a e : Nat) : Prop :=
 ∃ b, c = [{ v := .iface tyFaultP (pt b 0), recovered := false }] ∧ w.heap[b]? = some (.cells #[vi a, vi e] tyFault (0, 0))
def Rd {α : Type} (src : Bytes) (B r p : Nat) (w : World) (val : World → Value → α → Prop) (res : Res α) : Ending → World → Prop := fun e w' =>
 Fr B r p w w' ∧ match res with
  | .ok a st => ∃ v, e = .returned v ∧ RdAt src B r p w' st ∧ val w' v a
  | .err a x => ∃ c, e = .panicked c ∧ FaultAt w' c a x
theorem leave_ok {src : Bytes} {B r p : Nat} {w : World} {st : RS} (h : RdAt src B r p w st) (e : Nat) {α : Type} (val : World → Value → α → Prop) :
 Calls pr n_rd_leave #[pt r 0, vi e] w (Rd src B r p w val (.err st.at_ e)) := by
 refine sh_rd_leave_ok _ _ _ _ ?_
 unfold sh_rd_leave
 have hr := h.rd
 simp only [↓RT, ↓RG, RV, hr, ↓o_build (bd_Place _), ↓o_build (bd_Fault _ _), ↓rPanic, cells_agg]
 refine ⟨(Fr.refl _ _ _ _).alloc h.B_le _, _, rfl, w.heap.size, rfl, heap_alloc_self _⟩
def IsUnit {α : Type} (_ : World) (v : Value) (_ : α) : Prop := v = .tuple #[]
def IsNat (_ : World) (v : Value) (n : Nat) : Prop := v = vi n
theorem take_ok {src t : Bytes} {B r p : Nat} {w : World} {st : RS} {res : Res Unit} (h : RdAt src B r p w st) (hw : Wf src st) (hsm : src.length ≤ 400) (hres : takeS src t st = some res) :
 Calls pr n_rd_take #[pt r 0, .string (S t)] w (Rd src B r p w IsUnit res) := by
 refine sh_rd_take_ok _ _ _ _ ?_
 unfold sh_rd_take
 unfold takeS at hres
 refine ⟨fun _ w' => w' = dr w ∧ tok src st = t, ?_, ?_⟩
 ·rintro _ w' ⟨rfl, ht⟩
  rw [ht, if_pos (by simp)] at hres
  cases hres
  refine cl_of (next_ok h.dr hw.el hsm) ?_
  rintro _ w2 ⟨rfl, hfr, hrd⟩
  exact ⟨(Fr.refl _ _ _ _).dr.trans hfr, _, rfl, hrd, rfl⟩
 refine cl_of (token_ok h hw.ae hw.el) ?_
 rintro _ w1 ⟨rfl, rfl⟩
 simp only [endK, ↓RT, ↓RG, RV]
 refine condP_split (fun hb => ?_) (fun hb => ?_)
 ·rw [if_neg (by simpa using hb)] at hres
  cases hres
  refine cl_of (leave_ok (α := Unit) h.dr 2 IsUnit) ?_
  rintro _ w2 ⟨hfr, c, rfl, hc⟩
  exact ⟨(Fr.refl _ _ _ _).dr.trans hfr, c, rfl, hc⟩
 ·have ht : tok src st = t := by simpa using hb
  first | exact ⟨rfl, ht⟩ | exact ht
def varI (t : Bytes) : Int := match varOf t with
 | some v => v
 | none => -1
theorem wrap8_sub {n : Nat} (h1 : 97 ≤ n) (h2 : n ≤ 255) : IntKind.u8.wrap ((n : Int) - 97) = ((n - 97 : Nat) : Int) := by
 rw [IntKind.wrap_u8]; omega
theorem wrap8_sub48 {n : Nat} (h1 : 48 ≤ n) (h2 : n ≤ 255) : IntKind.u8.wrap ((n : Int) - 48) = ((n - 48 : Nat) : Int) := by
 rw [IntKind.wrap_u8]; omega
theorem wrap64_nat {n : Nat} (h : n ≤ 1000000000) : IntKind.i64.wrap (n : Int) = (n : Int) := wrap64 (by omega) (by omega)
theorem variable_ok {src : Bytes} {B r p : Nat} {w : World} {st : RS} (h : RdAt src B r p w st) (hw : Wf src st) :
 Calls pr n_rd_variable #[pt r 0] w (Is (vi (varI (tok src st))) (dr w)) := by
 refine sh_rd_variable_ok _ _ _ ?_
 unfold sh_rd_variable
 refine cl_of (token_ok h hw.ae hw.el) ?_
 rintro _ w1 ⟨rfl, rfl⟩
 generalize tok src st = t
 simp only [endK, ↓RT, ↓RG, RV]
 match t with
 | [] =>
   simp only [List.length_nil, show (((0 : Nat) : Int) != 1) = true from rfl, ↓RT, ↓RG, RV, cond_true]
   exact ⟨rfl, rfl⟩
 | c :: d :: r =>
   have : ((((c :: d :: r).length : Nat) : Int) != 1) = true := by simp [bne]; omega
   simp only [this, ↓RT, ↓RG, RV, cond_true]
   exact ⟨rfl, rfl⟩
 | [c] =>
   have hc := c.toNat_lt
   simp only [List.length_cons, List.length_nil, show (((0 + 1 : Nat) : Int) != 1) = false from rfl, ↓RT, ↓RG, RV, cond_false, strAt_lit0]
   refine condG_split (fun h1 => ?_) (fun h1 => ?_)
   ·rw [h1]; simp only [↓RT, ↓RG, RV, cond_false, strAt_lit0]
    simp only [decide_eq_false_iff_not] at h1
    refine condP_split (fun h2 => ?_) (fun h2 => ?_)
    ·simp only [decide_eq_true_eq] at h2
     have : varI [c] = -1 := by simp only [varI, varOf]; rw [if_neg (by omega)]
     rw [this]; exact ⟨rfl, rfl⟩
    ·simp only [decide_eq_false_iff_not] at h2
     have : varI [c] = ((c.toNat - 97 : Nat) : Int) := by simp only [varI, varOf]; rw [if_pos (by omega)]
     simp only [↓RT, ↓RG, RV, wrap8_sub (show 97 ≤ c.toNat by omega) (by omega), wrap64_nat (show c.toNat - 97 ≤ 1000000000 by omega)]
     rw [this]; exact ⟨rfl, rfl⟩
   ·have h1 : decide ((c.toNat : Int) < 97) = true := by revert h1; cases decide ((c.toNat : Int) < 97) <;> simp
    rw [h1]; simp only [↓RT, ↓RG, RV, cond_true]
    simp only [decide_eq_true_eq] at h1
    have : varI [c] = -1 := by simp only [varI, varOf]; rw [if_neg (by omega)]
    rw [this]; exact ⟨rfl, rfl⟩
theorem name_ok {src : Bytes} {B r p : Nat} {w : World} {st : RS} {res : Res Nat} (h : RdAt src B r p w st) (hw : Wf src st) (hsm : src.length ≤ 400) (hres : nameS src st = some res) :
 Calls pr n_rd_name #[pt r 0] w (Rd src B r p w IsNat res) := by
 refine sh_rd_name_ok _ _ _ ?_
 unfold sh_rd_name
 unfold nameS at hres
 refine ⟨fun vs w' => ∃ v, varOf (tok src st) = some v ∧ vs = [vi (v : Nat)] ∧ w' = dr w, ?_, ?_⟩
 ·rintro e w' ⟨v, hv, he, rfl⟩
  have he3 : e 3 = vi (v : Nat) := by simpa using he
  rw [hv] at hres
  cases hres
  rw [he3]
  refine cl_of (next_ok h.dr hw.el hsm) ?_
  rintro _ w2 ⟨rfl, hfr, hrd⟩
  exact ⟨(Fr.refl _ _ _ _).dr.trans hfr, _, rfl, hrd, rfl⟩
 refine cl_of (variable_ok h hw) ?_
 rintro _ w1 ⟨rfl, rfl⟩
 simp only [endK, ↓RT, ↓RG, RV]
 unfold varI
 cases hv : varOf (tok src st) with
 | some v =>
   have : decide ((v : Int) < 0) = false := by simp
   simp only [this, RV]
   first | exact ⟨v, rfl, rfl, rfl⟩ | exact ⟨v, rfl, rfl, trivial⟩
 | none =>
   simp only [show decide ((-1 : Int) < 0) = true from rfl, RV]
   rw [hv] at hres
   cases hres
   refine cl_of (leave_ok (α := Nat) h.dr 2 IsNat) ?_
   rintro _ w2 ⟨hfr, c, rfl, hc⟩
   exact ⟨(Fr.refl _ _ _ _).dr.trans hfr, c, rfl, hc⟩
end Go.Inv
namespace Go.Inv
open Go.Sh
def numI (t : Bytes) : Int := match numOf t with
 | some n => n
 | none => -1
def NumL (t : Bytes) (w0 : World) (vs : List Value) (w' : World) : Prop :=
 ∃ n k : Nat, vs = [vi n, vi k] ∧ w' = w0 ∧ k ≤ t.length ∧ n ≤ 400000 ∧ numLoop t 0 0 = numLoop (t.drop k) k n
def int2 : List Value → Nat
 | [_, .int _ n] => n.toNat
 | _ => 0
def NumM (t : Bytes) (vs : List Value) (_ : World) : Nat := t.length - int2 vs
theorem numI_none {t : Bytes} (h : numLoop t 0 0 = none) : numI t = -1 := by unfold numI numOf; rw [h]
theorem number_ok {src : Bytes} {B r p : Nat} {w : World} {st : RS} (h : RdAt src B r p w st) (hw : Wf src st) (hsm : src.length ≤ 400) :
 Calls pr n_rd_number #[pt r 0] w (Is (vi (numI (tok src st))) (dr w)) := by
 refine sh_rd_number_ok _ _ _ ?_
 unfold sh_rd_number
 refine cl_of (token_ok h hw.ae hw.el) ?_
 rintro _ w1 ⟨rfl, rfl⟩
 have htl : (tok src st).length ≤ 400 := by
  unfold tok; rw [List.length_drop, List.length_take]; omega
 generalize tok src st = t at htl ⊢
 simp only [endK, ↓RT, ↓RG, RV]
 refine ⟨NumL t (dr w), NumM t, ⟨0, 0, rfl, rfl, Nat.zero_le _, Nat.zero_le _, rfl⟩, ?_⟩
 rintro e w2 ⟨n, k, he, rfl, hk, hn, hl⟩
 have he4 : e 4 = vi (n : Nat) := by simp at he; exact he.1
 have he10 : e 10 = vi (k : Nat) := by simp at he; exact he.2
 rw [he4, he10]
 by_cases hlt : k < t.length
 ·obtain ⟨c, hc⟩ : ∃ c, t[k]? = some c := ⟨t[k], by simp [hlt]⟩
  have hcl := c.toNat_lt
  have hdrop : t.drop k = c :: t.drop (k + 1) := by
   rw [List.drop_eq_getElem_cons hlt]; congr 1; exact (List.getElem?_eq_some_iff.1 hc).2
  rw [hdrop] at hl
  have hd : decide ((k : Int) < (t.length : Int)) = true := by simp [hlt]
  simp only [hd, ↓RT, ↓RG, RV, strAt_nat hc]
  refine cl_of (digit_ok c _) ?_
  rintro _ w3 ⟨rfl, rfl⟩
  simp only [endK, ↓RT, ↓RG, RV]
  cases hdg : digitB c with
  | false =>
    simp only [Bool.not_false, ↓RT, ↓RG, RV, cond_true]
    rw [numI_none (by rw [hl]; simp [numLoop, hdg])]
    exact ⟨rfl, rfl⟩
  | true =>
    simp only [Bool.not_true, ↓RT, ↓RG, RV, cond_false]
    -- what the round computes when it goes on
    have step : ¬ ((k > 0 && n == 0) = true) → ¬ n > 32767 →
     numLoop t 0 0 = numLoop (t.drop (k + 1)) (k + 1) (10 * n + (c.toNat - 48)) := by
     intro h1 h2
     rw [hl]
     simp only [numLoop, hdg]
     rw [if_neg (by simp at h1 h2 ⊢; exact ⟨h1, by omega⟩)]
    have h48 : 48 ≤ c.toNat := by simp [digitB] at hdg; omega
    have hw1 : IntKind.i64.wrap (10 * (n : Int)) = ((10 * n : Nat) : Int) := by rw [wrap64 (by omega) (by omega)]; omega
    have hw2 : IntKind.i64.wrap (((10 * n : Nat) : Int) + ((c.toNat - 48 : Nat) : Int)) = ((10 * n + (c.toNat - 48) : Nat) : Int) := by rw [wrap64 (by omega) (by omega)]; omega
    have hw3 : IntKind.i64.wrap ((k : Int) + 1) = ((k + 1 : Nat) : Int) := by rw [wrap64 (by omega) (by omega)]; omega
    have goes : ¬ ((k > 0 && n == 0) = true) → ¬ n > 32767 → NumL t (dr w) [vi ((10 * n + (c.toNat - 48) : Nat)), vi ((k + 1 : Nat))] (dr w) ∧
     NumM t [vi ((10 * n + (c.toNat - 48) : Nat)), vi ((k + 1 : Nat))] (dr w) < NumM t [vi (n : Nat), vi (k : Nat)] (dr w) := by
     intro h1 h2
     refine ⟨⟨_, _, rfl, rfl, by omega, by omega, step h1 h2⟩, ?_⟩
     simp [NumM, int2]; omega
    refine condG_split (fun hk0 => ?_) (fun hk0 => ?_)
    ·rw [hk0]
     simp only [↓RT, ↓RG, RV, cond_true]
     refine condG_split (fun hn0 => ?_) (fun hn0 => ?_)
     ·rw [hn0]
      simp only [↓RT, ↓RG, RV, cond_false]
      refine condP_split (fun hb => ?_) (fun hb => ?_)
      ·rw [numI_none (by rw [hl]; simp [numLoop, hdg]; simp at hb; omega)]
       exact ⟨rfl, rfl⟩
      ·simp only [↓RT, ↓RG, RV, strAt_nat hc, hw1, wrap8_sub48 h48 (by omega), wrap64_nat (show c.toNat - 48 ≤ 1000000000 by omega), hw2, hw3]
       exact goes (by simp at hn0 ⊢; intro _; omega) (by simp at hb; omega)
     ·have hn0 : ((n : Int) == 0) = true := by revert hn0; cases ((n : Int) == 0) <;> simp
      rw [hn0]
      simp only [↓RT, ↓RG, RV, cond_true]
      rw [numI_none (by rw [hl]; simp [numLoop, hdg]; simp at hk0 hn0; omega)]
      exact ⟨rfl, rfl⟩
    ·have hk0 : decide ((k : Int) > 0) = false := by revert hk0; cases decide ((k : Int) > 0) <;> simp
     rw [hk0]
     simp only [↓RT, ↓RG, RV, cond_false]
     refine condP_split (fun hb => ?_) (fun hb => ?_)
     ·rw [numI_none (by rw [hl]; simp [numLoop, hdg]; simp at hb; omega)]
      exact ⟨rfl, rfl⟩
     ·simp only [↓RT, ↓RG, RV, strAt_nat hc, hw1, wrap8_sub48 h48 (by omega), wrap64_nat (show c.toNat - 48 ≤ 1000000000 by omega), hw2, hw3]
      exact goes (by simp at hk0 ⊢; intro _; omega) (by simp at hb; omega)
 ·have hkk : k = t.length := by omega
  rw [hkk, List.drop_length] at hl
  have hd : decide ((k : Int) < (t.length : Int)) = false := by simp; omega
  simp only [hd, ↓RT, ↓RG, RV]
  refine condG_split (fun ht => ?_) (fun ht => ?_)
  ·rw [ht]
   simp only [↓RT, ↓RG, RV, cond_false]
   refine condP_split (fun hb => ?_) (fun hb => ?_)
   ·have : numI t = -1 := by
     unfold numI numOf; rw [hl]; simp only [numLoop]; rw [if_pos (.inr (by simp at hb; omega))]
    rw [this]; exact ⟨rfl, rfl⟩
   ·have : numI t = n := by
     unfold numI numOf; rw [hl]; simp only [numLoop]; rw [if_neg (by simp at ht hb; simp [ht]; omega)]
    rw [this]; exact ⟨rfl, rfl⟩
  ·have ht : (t == []) = true := by revert ht; cases (t == []) <;> simp
   rw [ht]
   simp only [↓RT, ↓RG, RV, cond_true]
   have : numI t = -1 := by
    unfold numI numOf; rw [hl]; simp only [numLoop]; rw [if_pos (.inl (by simpa using ht))]
   rw [this]; exact ⟨rfl, rfl⟩
end Go.Inv
namespace Go.Inv
open Go.Sh
abbrev tyRels : Nat := 253
def relTab : List Bytes := [[60], [62, 61], [60, 61], [62], [61, 61], [33, 61]]
theorem ix_rels : ∀ (i : Nat) (t : Bytes) (w : World), relTab[i]? = some t → (sIdx tyRels (.agg relsV) (vi i)).run pr w = .ok (.value (.string (S t))) w
 | 0, _, _, h => by cases h; kernel_rfl
 | 1, _, _, h => by cases h; kernel_rfl
 | 2, _, _, h => by cases h; kernel_rfl
 | 3, _, _, h => by cases h; kernel_rfl
 | 4, _, _, h => by cases h; kernel_rfl
 | 5, _, _, h => by cases h; kernel_rfl
 | n + 6, _, _, h => by simp [relTab] at h
def relI (t : Bytes) : Int := match relOf t with
 | some k => k
 | none => -1
def RelL (t : Bytes) (w0 : World) (vs : List Value) (w' : World) : Prop := ∃ i : Nat, vs = [vi i] ∧ w' = w0 ∧ i ≤ 6 ∧ ∀ j, j < i → relTab[j]? ≠ some t
def RelM (vs : List Value) (_ : World) : Nat := 6 - intAt vs
theorem relOf_at : ∀ (i : Nat) (t : Bytes), relTab[i]? = some t → relOf t = some i
 | 0, _, h => by cases h; rfl
 | 1, _, h => by cases h; rfl
 | 2, _, h => by cases h; rfl
 | 3, _, h => by cases h; rfl
 | 4, _, h => by cases h; rfl
 | 5, _, h => by cases h; rfl
 | n + 6, _, h => by simp [relTab] at h
theorem relOf_none {t : Bytes} (h : ∀ j, j < 6 → relTab[j]? ≠ some t) : relOf t = none := by
 have h0 := h 0 (by omega); have h1 := h 1 (by omega); have h2 := h 2 (by omega); have h3 := h 3 (by omega); have h4 := h 4 (by omega); have h5 := h 5 (by omega)
 simp [relTab] at h0 h1 h2 h3 h4 h5
 unfold relOf
 rw [if_neg, if_neg, if_neg, if_neg, if_neg, if_neg] <;> simp <;> intro e <;> simp_all
theorem relOf_ok {t : Bytes} {w : World} (h : RelsAt w) : Calls pr n_tree_RelOf #[.string (S t)] w (Is (vi (relI t)) w) := by
 refine sh_tree_RelOf_ok _ _ _ ?_
 unfold sh_tree_RelOf
 obtain ⟨T, f, hb⟩ := h
 have hrow : blkRow (w.heap[1]?) 0 6 = some (.agg relsV) := by
  rw [show w.heap[1]? = _ from hb]
  rfl
 simp only [↓RT, ↓RG, RV, hrow]
 refine ⟨RelL t w, RelM, ⟨0, rfl, rfl, by omega, fun j hj => by omega⟩, ?_⟩
 rintro e w2 ⟨i, he, rfl, hi, hno⟩
 have he6 : e 6 = vi (i : Nat) := by simpa using he
 rw [he6]
 by_cases hlt : i < 6
 ·obtain ⟨u, hu⟩ : ∃ u, relTab[i]? = some u := ⟨relTab[i]'(by simpa [relTab] using hlt), by simp⟩
  have hd : decide ((i : Int) < 6) = true := by simp; omega
  have hix := ix_rels i u
  simp only [hd, ↓RT, ↓RG, RV]
  rw [o_val (hix w2 hu)]
  simp only [↓RT, ↓RG, RV]
  refine condP_split (fun hb => ?_) (fun hb => ?_)
  ·have : relI t = i := by unfold relI; rw [relOf_at i t (by rw [hu]; simp at hb; rw [hb])]
   rw [this]; exact ⟨rfl, rfl⟩
  ·have hw : IntKind.i64.wrap ((i : Int) + 1) = ((i + 1 : Nat) : Int) := by rw [wrap64 (by omega) (by omega)]; omega
   simp only [↓RT, ↓RG, RV, hw]
   refine ⟨⟨i + 1, rfl, rfl, by omega, fun j hj => ?_⟩, ?_⟩
   ·by_cases hji : j = i
    ·rw [hji, hu]; simp at hb; simp; exact fun e => hb e.symm
    ·exact hno j (by omega)
   ·simp [RelM, intAt]; omega
 ·have hd : decide ((i : Int) < 6) = false := by simp; omega
  simp only [hd, ↓RT, ↓RG, RV]
  have : relI t = -1 := by unfold relI; rw [relOf_none (fun j hj => hno j (by omega))]
  rw [this]; exact ⟨rfl, rfl⟩
end Go.Inv
namespace Go.Inv
open Go.Sh
def Node (w : World) (b : Nat) (cs : Array Value) (t : Nat) : Prop := w.heap[b]? = some (.cells cs t (0, 0))
def NodeTy (t : Nat) : Prop := t ≠ tyInt ∧ t ≠ tyReader ∧ t ≠ tyProg
def KeepN (w w' : World) : Prop := ∀ (c : Nat) (cs : Array Value) (t : Nat), NodeTy t → Node w c cs t → Node w' c cs t
theorem KeepN.refl (w : World) : KeepN w w := fun _ _ _ _ h => h
theorem KeepN.trans {a b c : World} (h : KeepN a b) (g : KeepN b c) : KeepN a c := fun x cs t ht hn => g x cs t ht (h x cs t ht hn)
theorem KeepN.dr {a b : World} (h : KeepN a b) : KeepN a (dr b) := h
theorem KeepN.alloc {a b : World} (h : KeepN a b) (x : Obj) : KeepN a (b.alloc x) := fun c cs t ht hn => by
 have h1 := h c cs t ht hn
 have := lt_of_heap h1
 unfold Node; rw [heap_alloc_ne (by omega)]; exact h1
theorem Fr.keepN {src : Bytes} {B r p : Nat} {w w' : World} {st : RS} (h : Fr B r p w w') (hr : RdAt src B r p w st) : KeepN w w' := fun c cs t ht hn => by
 obtain ⟨nv, hp, _⟩ := hr.pg
 refine h.keep c cs t _ hn ht.1 ?_ ?_
 ·rintro rfl; have := hr.rd; rw [hn] at this; cases this; exact ht.2.1 rfl
 ·rintro rfl; rw [hn] at hp; cases hp; exact ht.2.2 rfl
def SumAt (w : World) (v : Value) : Sum → Prop
 | .num n => ∃ b, v = .iface tyNumP (pt b 0) ∧ Node w b #[.int .i16 n] tyNum
 | .name k => ∃ b, v = .iface tyNameP (pt b 0) ∧ Node w b #[vi k] tyName
 | .minus x => ∃ b u, v = .iface tyMinusP (pt b 0) ∧ Node w b #[u] tyMinus ∧ SumAt w u x
 | .two s l r site => ∃ b u1 u2, v = .iface tyTwoP (pt b 0) ∧ Node w b #[.int .u8 s.toNat, u1, u2, vi site] tyTwo ∧ SumAt w u1 l ∧ SumAt w u2 r
theorem nt_Num : NodeTy tyNum := ⟨by decide, by decide, by decide⟩
theorem nt_Name : NodeTy tyName := ⟨by decide, by decide, by decide⟩
theorem nt_Minus : NodeTy tyMinus := ⟨by decide, by decide, by decide⟩
theorem nt_Two : NodeTy tyTwo := ⟨by decide, by decide, by decide⟩
theorem SumAt.keep {w w' : World} (h : KeepN w w') : ∀ {x : Sum} {v : Value}, SumAt w v x → SumAt w' v x
 | .num _, _, ⟨b, h1, h2⟩ => ⟨b, h1, h _ _ _ nt_Num h2⟩
 | .name _, _, ⟨b, h1, h2⟩ => ⟨b, h1, h _ _ _ nt_Name h2⟩
 | .minus _, _, ⟨b, u, h1, h2, h3⟩ => ⟨b, u, h1, h _ _ _ nt_Minus h2, h3.keep h⟩
 | .two _ _ _ _, _, ⟨b, u1, u2, h1, h2, h3, h4⟩ => ⟨b, u1, u2, h1, h _ _ _ nt_Two h2, h3.keep h, h4.keep h⟩
theorem SumAt.iface {w : World} : ∀ {x : Sum} {v : Value}, SumAt w v x → ∃ t u, v = .iface t u
 | .num _, _, ⟨_, h1, _⟩ => ⟨_, _, h1⟩
 | .name _, _, ⟨_, h1, _⟩ => ⟨_, _, h1⟩
 | .minus _, _, ⟨_, _, h1, _⟩ => ⟨_, _, h1⟩
 | .two _ _ _ _, _, ⟨_, _, _, h1, _⟩ => ⟨_, _, h1⟩
def wrapOp {α : Type} : Res α → Res α
 | .ok a st => .ok a { st with op := st.op - 1 }
 | .err a e => .err a e
def wthS {α : Type} (src t : Bytes) (st : RS) (inn : Res α) : Res α :=
 if tok src st = t then (if st.op = 12 then .err st.at_ 3 else wrapOp inn) else .err st.at_ 2
def JW (w0 : World) (P : Prop) (vs : List Value) (w' : World) : Prop := vs = [] ∧ w' = w0 ∧ P
theorem withinSum_ok {α : Type} {src t : Bytes} {B r p f : Nat} {w : World} {st : RS} {x y : Array Value} {val : World → Value → α → Prop} {inn : Res α}
 (h : RdAt src B r p w st) (hw : Wf src st) (hsm : src.length ≤ 400) (hop : st.op ≤ 12) (hf : okFn pr f = true)
 (hval : ∀ w w' v a, KeepN w w' → val w v a → val w' v a)
 (hin : tok src st = t → st.op < 12 → ∀ w1, Fr B r p w w1 → RdAt src B r p w1 { nextS src st with op := st.op + 1 } → Calls pr f (x ++ #[] ++ y) w1 (Rd src B r p w1 val inn))
 (hk : ∀ a st', tok src st = t → inn = .ok a st' → st'.op = st.op + 1) :
 Calls pr n_text_within_Sum #[pt r 0, .string (S t), .func (.func f) x y] w (Rd src B r p w val (wthS src t st inn)) := by
 refine sh_text_within_Sum_ok _ _ _ _ _ ?_
 unfold sh_text_within_Sum
 refine ⟨JW (dr w) (¬ (tok src st = t ∧ st.op = 12)), ?_, ?_⟩
 ·rintro _ w' ⟨_, rfl, hno⟩
  by_cases ht : tok src st = t
  ·have hop2 : st.op < 12 := by
    rcases Nat.lt_or_ge st.op 12 with h' | h'
    ·exact h'
    ·exact absurd ⟨ht, by omega⟩ hno
   have htake : takeS src t st = some (.ok () (nextS src st)) := by unfold takeS; rw [if_pos (by simpa using ht)]
   refine cl_of (take_ok (t := t) h.dr hw hsm htake) ?_
   rintro _ w2 ⟨hfr, u, rfl, hrd, rfl⟩
   have hr2 := hrd.rd
   have hw1 : IntKind.i64.wrap (((nextS src st).op : Int) + 1) = ((st.op + 1 : Nat) : Int) := by rw [show (nextS src st).op = st.op from rfl, wrap64 (by omega) (by omega)]; omega
   simp only [endK, ↓RT, ↓RG, RV, hr2, hw1, ↓rCallF hf]
   have hsz := h.B_le
   have hlt := lt_of_heap h.rd
   have hfr3 : Fr B r p w (put w2 r 3 (vi (st.op + 1 : Nat))) := ((Fr.refl _ _ _ _).dr.trans hfr).put h.rB (.inl rfl)
   refine cl_of (hin ht hop2 _ hfr3 (hrd.put_op (st.op + 1))) ?_
   rintro e w3 ⟨hfr4, hres⟩
   unfold wthS
   rw [if_pos ht, if_neg (by omega)]
   cases inn with
   | err a x =>
     obtain ⟨c, rfl, hc⟩ := hres
     exact ⟨hfr3.trans hfr4, c, rfl, hc⟩
   | ok a st' =>
     obtain ⟨v, rfl, hrd5, hv⟩ := hres
     have hr5 := hrd5.rd
     have ho := hk a st' ht rfl
     have hw2 : IntKind.i64.wrap ((st'.op : Int) - 1) = ((st'.op - 1 : Nat) : Int) := by rw [wrap64 (by omega) (by omega)]; omega
     simp only [endK, ↓RT, ↓RG, RV, hr5, hw2]
     have hf6 : Fr B r p w3 (put w3 r 3 (vi (st'.op - 1 : Nat))) := (Fr.refl _ _ _ _).put h.rB (.inl rfl)
     exact ⟨(hfr3.trans hfr4).put h.rB (.inl rfl), v, rfl, hrd5.put_op _, hval _ _ _ _ (hf6.keepN hrd5) hv⟩
  ·have htake : takeS src t st = some (.err st.at_ 2) := by unfold takeS; rw [if_neg (by simpa using ht)]
   refine cl_of (take_ok (t := t) h.dr hw hsm htake) ?_
   rintro _ w2 ⟨hfr, c, rfl, hc⟩
   unfold wthS
   rw [if_neg ht]
   exact ⟨(Fr.refl _ _ _ _).dr.trans hfr, c, rfl, hc⟩
 refine cl_of (token_ok h hw.ae hw.el) ?_
 rintro _ w1 ⟨rfl, rfl⟩
 have hr := h.rd
 simp only [endK, ↓RT, ↓RG, RV]
 refine condG_split (fun hb => ?_) (fun hb => ?_)
 ·rw [hb]
  simp only [↓RT, ↓RG, RV, hr, cond_true]
  have ht : tok src st = t := by simpa using hb
  refine condP_split (fun ho => ?_) (fun ho => ?_)
  ·refine cl_of (leave_ok (α := α) h.dr 3 val) ?_
   rintro _ w2 ⟨hfr, c, rfl, hc⟩
   unfold wthS
   rw [if_pos ht, if_pos (by simp at ho; omega)]
   exact ⟨(Fr.refl _ _ _ _).dr.trans hfr, c, rfl, hc⟩
  ·exact ⟨rfl, rfl, fun hh => by simp at ho; omega⟩
 ·have hb' : (tok src st == t) = false := by revert hb; cases (tok src st == t) <;> simp
  rw [hb']
  simp only [↓RT, ↓RG, RV, cond_false]
  exact ⟨rfl, rfl, fun hh => by simp at hb'; exact hb' hh.1⟩
theorem withinSts_ok {α : Type} {src t : Bytes} {B r p f : Nat} {w : World} {st : RS} {x y : Array Value} {val : World → Value → α → Prop} {inn : Res α}
 (h : RdAt src B r p w st) (hw : Wf src st) (hsm : src.length ≤ 400) (hop : st.op ≤ 12) (hf : okFn pr f = true)
 (hval : ∀ w w' v a, KeepN w w' → val w v a → val w' v a)
 (hin : tok src st = t → st.op < 12 → ∀ w1, Fr B r p w w1 → RdAt src B r p w1 { nextS src st with op := st.op + 1 } → Calls pr f (x ++ #[] ++ y) w1 (Rd src B r p w1 val inn))
 (hk : ∀ a st', tok src st = t → inn = .ok a st' → st'.op = st.op + 1) :
 Calls pr n_text_within_tree_Statement #[pt r 0, .string (S t), .func (.func f) x y] w (Rd src B r p w val (wthS src t st inn)) := by
 refine sh_text_within_tree_Statement_ok _ _ _ _ _ ?_
 unfold sh_text_within_tree_Statement
 refine ⟨JW (dr w) (¬ (tok src st = t ∧ st.op = 12)), ?_, ?_⟩
 ·rintro _ w' ⟨_, rfl, hno⟩
  by_cases ht : tok src st = t
  ·have hop2 : st.op < 12 := by
    rcases Nat.lt_or_ge st.op 12 with h' | h'
    ·exact h'
    ·exact absurd ⟨ht, by omega⟩ hno
   have htake : takeS src t st = some (.ok () (nextS src st)) := by unfold takeS; rw [if_pos (by simpa using ht)]
   refine cl_of (take_ok (t := t) h.dr hw hsm htake) ?_
   rintro _ w2 ⟨hfr, u, rfl, hrd, rfl⟩
   have hr2 := hrd.rd
   have hw1 : IntKind.i64.wrap (((nextS src st).op : Int) + 1) = ((st.op + 1 : Nat) : Int) := by rw [show (nextS src st).op = st.op from rfl, wrap64 (by omega) (by omega)]; omega
   simp only [endK, ↓RT, ↓RG, RV, hr2, hw1, ↓rCallF hf]
   have hsz := h.B_le
   have hlt := lt_of_heap h.rd
   have hfr3 : Fr B r p w (put w2 r 3 (vi (st.op + 1 : Nat))) := ((Fr.refl _ _ _ _).dr.trans hfr).put h.rB (.inl rfl)
   refine cl_of (hin ht hop2 _ hfr3 (hrd.put_op (st.op + 1))) ?_
   rintro e w3 ⟨hfr4, hres⟩
   unfold wthS
   rw [if_pos ht, if_neg (by omega)]
   cases inn with
   | err a x =>
     obtain ⟨c, rfl, hc⟩ := hres
     exact ⟨hfr3.trans hfr4, c, rfl, hc⟩
   | ok a st' =>
     obtain ⟨v, rfl, hrd5, hv⟩ := hres
     have hr5 := hrd5.rd
     have ho := hk a st' ht rfl
     have hw2 : IntKind.i64.wrap ((st'.op : Int) - 1) = ((st'.op - 1 : Nat) : Int) := by rw [wrap64 (by omega) (by omega)]; omega
     simp only [endK, ↓RT, ↓RG, RV, hr5, hw2]
     have hf6 : Fr B r p w3 (put w3 r 3 (vi (st'.op - 1 : Nat))) := (Fr.refl _ _ _ _).put h.rB (.inl rfl)
     exact ⟨(hfr3.trans hfr4).put h.rB (.inl rfl), v, rfl, hrd5.put_op _, hval _ _ _ _ (hf6.keepN hrd5) hv⟩
  ·have htake : takeS src t st = some (.err st.at_ 2) := by unfold takeS; rw [if_neg (by simpa using ht)]
   refine cl_of (take_ok (t := t) h.dr hw hsm htake) ?_
   rintro _ w2 ⟨hfr, c, rfl, hc⟩
   unfold wthS
   rw [if_neg ht]
   exact ⟨(Fr.refl _ _ _ _).dr.trans hfr, c, rfl, hc⟩
 refine cl_of (token_ok h hw.ae hw.el) ?_
 rintro _ w1 ⟨rfl, rfl⟩
 have hr := h.rd
 simp only [endK, ↓RT, ↓RG, RV]
 refine condG_split (fun hb => ?_) (fun hb => ?_)
 ·rw [hb]
  simp only [↓RT, ↓RG, RV, hr, cond_true]
  have ht : tok src st = t := by simpa using hb
  refine condP_split (fun ho => ?_) (fun ho => ?_)
  ·refine cl_of (leave_ok (α := α) h.dr 3 val) ?_
   rintro _ w2 ⟨hfr, c, rfl, hc⟩
   unfold wthS
   rw [if_pos ht, if_pos (by simp at ho; omega)]
   exact ⟨(Fr.refl _ _ _ _).dr.trans hfr, c, rfl, hc⟩
  ·exact ⟨rfl, rfl, fun hh => by simp at ho; omega⟩
 ·have hb' : (tok src st == t) = false := by revert hb; cases (tok src st == t) <;> simp
  rw [hb']
  simp only [↓RT, ↓RG, RV, cond_false]
  exact ⟨rfl, rfl, fun hh => by simp at hb'; exact hb' hh.1⟩
end Go.Inv
namespace Go.Inv
open Go.Sh
def signsOf (mul : Bool) : Bytes := if mul then [42, 47, 37] else [43, 45]
theorem signs_small (mul : Bool) : (signsOf mul).length ≤ 3 := by cases mul <;> decide
theorem isSign_of {mul : Bool} {i : Nat} {c : UInt8} (h : (signsOf mul)[i]? = some c) : isSign mul [c] = true := by
 cases mul
 ·match i, h with
  | 0, h => cases h; rfl
  | 1, h => cases h; rfl
  | n + 2, h => simp [signsOf] at h
 ·match i, h with
  | 0, h => cases h; rfl
  | 1, h => cases h; rfl
  | 2, h => cases h; rfl
  | n + 3, h => simp [signsOf] at h
theorem isSign_none {mul : Bool} {t : Bytes} (h : ∀ (i : Nat) (c : UInt8), (signsOf mul)[i]? = some c → t ≠ [c]) : isSign mul t = false := by
 cases mul
 ·have h0 := h 0 43 rfl; have h1 := h 1 45 rfl
  simp [isSign, isAddSign, h0, h1]
 ·have h0 := h 0 42 rfl; have h1 := h 1 47 rfl; have h2 := h 2 37 rfl
  simp [isSign, isMulSign, h0, h1, h2]
theorem strCut_one {s : Bytes} {i : Nat} {c : UInt8} (h : s[i]? = some c) : strCut s (i : Int) ((i + 1 : Nat) : Int) = some (.string (S [c])) := by
 obtain ⟨hlt, hc⟩ := List.getElem?_eq_some_iff.1 h
 have hcc := h
 unfold strCut
 rw [if_pos ⟨by omega, by omega, by omega⟩]
 have : piece s (i : Int) ((i + 1 : Nat) : Int) = [c] := by
  unfold piece
  rw [Int.toNat_natCast, Int.toNat_natCast, List.take_add_one, hcc]
  simp [List.drop_append, Nat.min_eq_left (Nat.le_of_lt hlt)]
 rw [this]
def atOf (w : World) (r : Nat) : Nat := match w.heap[r]? with
 | some (.cells c _ _) => match c[1]? with
   | some (Value.int _ n) => n.toNat
   | _ => 0
 | _ => 0
theorem atOf_eq {src : Bytes} {B r p : Nat} {w : World} {st : RS} (h : RdAt src B r p w st) : atOf w r = st.at_ := by
 unfold atOf; rw [h.rd]; simp
def ChL (src : Bytes) (B r p : Nat) (w0 : World) (n : Nat) (mul : Bool) (res : Res Sum) (vs : List Value) (w : World) : Prop :=
 ∃ (m : Nat) (x : Sum) (st : RS) (u v : Value), vs = [u, v] ∧ m ≤ n ∧ ex src m (.ch mul x) st = some res ∧ Fr B r p w0 w ∧ RdAt src B r p w st ∧ Wf src st ∧ st.op ≤ 12 ∧ SumAt w v x
def ChM (src : Bytes) (r : Nat) (_ : List Value) (w : World) : Nat := src.length - atOf w r
def SgL (mul : Bool) (t : Bytes) (v : Value) (w0 : World) (vs : List Value) (w : World) : Prop :=
 ∃ i : Nat, vs = [v, vi i] ∧ w = w0 ∧ i ≤ (signsOf mul).length ∧ ∀ (j : Nat) (c : UInt8), j < i → (signsOf mul)[j]? = some c → t ≠ [c]
def SgM (vs : List Value) (_ : World) : Nat := match vs with
 | [_, .int _ n] => 3 - n.toNat
 | _ => 0
def ChJ (src : Bytes) (B r p : Nat) (w0 : World) (st : RS) (t : Bytes) (vs : List Value) (w : World) : Prop :=
 vs = [vi (siteOf t st)] ∧ Fr B r p w0 w ∧ RdAt src B r p w (bump t st)
theorem bd_Two (s : UInt8) (t1 t2 : Nat) (u1 u2 : Value) (site : Int) (w : World) :
 (sBuild tyTwo [(0, .int .u8 s.toNat), (1, .iface t1 u1), (2, .iface t2 u2), (3, vi site)]).run pr w = .ok (.value (.agg #[.int .u8 s.toNat, .iface t1 u1, .iface t2 u2, vi site])) w := by kernel_rfl
theorem chain_ok {src : Bytes} {B r p f n : Nat} {w : World} {mul : Bool} {st : RS} {res : Res Sum}
 (h : RdAt src B r p w st) (hw : Wf src st) (hsm : src.length ≤ 400) (hop : st.op ≤ 12) (hf : okFn pr f = true)
 (hpart : ∀ m, m ≤ n → ∀ w1 st1 res1, RdAt src B r p w1 st1 → Wf src st1 → st1.op ≤ 12 → ex src m (partJob mul) st1 = some res1 → Calls pr f #[pt r 0] w1 (Rd src B r p w1 SumAt res1))
 (hres : Res.bind (ex src n (partJob mul) st) (fun x st' => ex src n (.ch mul x) st') = some res) :
 Calls pr n_rd_chain #[pt r 0, .string (S (signsOf mul)), .func (.func f) #[pt r 0] #[]] w (Rd src B r p w SumAt res) := by
 refine sh_rd_chain_ok _ _ _ _ _ ?_
 unfold sh_rd_chain
 refine ⟨ChL src B r p w n mul res, ChM src r, ?_, ?_⟩
 ·rintro e1 w1 ⟨m, x, st1, u, v, he, hm, hex, hfr, hrd, hwf, hop1, hsum⟩
  obtain ⟨he6, he7⟩ : e1 6 = u ∧ e1 7 = v := by simpa using he
  rw [he6, he7]
  cases m with
  | zero => simp [ex] at hex
  | succ m =>
  refine cl_of (token_ok hrd hwf.ae hwf.el) ?_
  rintro _ w2 ⟨rfl, rfl⟩
  simp only [endK, ↓RT, ↓RG, RV]
  refine ⟨SgL mul (tok src st1) v (dr w1), SgM, ⟨0, rfl, rfl, by omega, fun j c hj => by omega⟩, ?_⟩
  rintro e2 w2 ⟨i, he2, rfl, hi, hno⟩
  obtain ⟨he27, he217⟩ : e2 7 = v ∧ e2 17 = vi (i : Nat) := by simpa using he2
  rw [he27, he217]
  have hs3 := signs_small mul
  by_cases hlt : i < (signsOf mul).length
  ·obtain ⟨c, hc⟩ : ∃ c, (signsOf mul)[i]? = some c := ⟨_, List.getElem?_eq_getElem hlt⟩
   have hd : decide ((i : Int) < ((signsOf mul).length : Int)) = true := by simp; omega
   have hw1 : IntKind.i64.wrap ((i : Int) + 1) = ((i + 1 : Nat) : Int) := by rw [wrap64 (by omega) (by omega)]; omega
   simp only [hd, ↓RT, ↓RG, RV, hw1, strCut_one hc]
   refine condP_split (fun hb => ?_) (fun hb => ?_)
   ·have ht : tok src st1 = [c] := by simpa using hb
    have hsg : isSign mul (tok src st1) = true := by rw [ht]; exact isSign_of hc
    simp only [ex] at hex
    rw [if_pos hsg] at hex
    have hb0 := bump_next hwf (by rw [ht]; simp)
    have hpos := tok_pos hwf (by rw [ht]; simp)
    refine ⟨ChJ src B r p w1 st1 (tok src st1), ?_, ?_⟩
    ·rintro e3 w3 ⟨he3, hfr3, hrd3⟩
     have he10 : e3 10 = vi (siteOf (tok src st1) st1) := by simpa using he3
     rw [he10]
     have hlen : (bump (tok src st1) st1).en ≤ src.length := by unfold bump; split <;> exact hwf.el
     refine cl_of (next_ok hrd3 hlen hsm) ?_
     rintro _ w4 ⟨rfl, hfr4, hrd4⟩
     rw [ht]
     simp only [endK, ↓RT, ↓RG, RV, strAt_lit0, ↓rCallF hf]
     simp only [ht] at hex hb0
     cases hex1 : ex src m (partJob mul) (nextS src (bump [c] st1)) with
     | none => rw [hex1] at hex; simp [Res.bind] at hex
     | some res1 =>
     rw [hex1] at hex
     have hwf4 := hb0.wf
     rw [ht] at hrd4
     have hop4 : (nextS src (bump [c] st1)).op ≤ 12 := by rw [hb0.op]; exact hop1
     refine cl_of (hpart m (by omega) (dr w4) _ _ hrd4.dr hwf4 hop4 hex1) ?_
     rintro e w5 ⟨hfr5, hres5⟩
     cases res1 with
     | err a x =>
       obtain ⟨c', rfl, hc'⟩ := hres5
       simp only [Res.bind] at hex
       cases hex
       exact ⟨((hfr.trans hfr3).trans hfr4.dr).trans hfr5, c', rfl, hc'⟩
     | ok y st' =>
       obtain ⟨v', rfl, hrd5, hv'⟩ := hres5
       simp only [Res.bind] at hex
       have hk5 := ex_kept _ _ _ _ _ hwf4 hex1
       have hfrt := (hfr3.trans hfr4.dr).trans hfr5
       have hsum5 : SumAt w5 v x := hsum.keep (hfrt.keepN hrd)
       obtain ⟨ta, ua, rfl⟩ := hsum.iface
       obtain ⟨tb, ub, rfl⟩ := hv'.iface
       simp only [endK, ↓RT, ↓RG, RV, ↓oz_build (bd_Two _ _ _ _ _ _), cells_agg]
       have hka : KeepN w5 (w5.alloc (.cells #[.int .u8 c.toNat, .iface ta ua, .iface tb ub, vi (siteOf [c] st1)] tyTwo)) := (KeepN.refl _).alloc _
       refine ⟨⟨m, _, st', _, _, rfl, by omega, hex, ?_, hrd5.alloc _, hk5.wf, by rw [hk5.op]; exact hop4, ?_⟩, ?_⟩
       ·exact (hfr.trans hfrt).alloc h.B_le _
       ·exact ⟨w5.heap.size, _, _, rfl, heap_alloc_self _, hsum5.keep hka, hv'.keep hka⟩
       ·have e1 : atOf (w5.alloc (.cells #[.int .u8 c.toNat, .iface ta ua, .iface tb ub, vi (siteOf [c] st1)] tyTwo)) r = st'.at_ := atOf_eq (hrd5.alloc _)
        have e2 : atOf w1 r = st1.at_ := atOf_eq hrd
        have e3 := hk5.ge
        have e4 := @nextS_at src (bump [c] st1)
        have e5 : (bump [c] st1).en = st1.en := by unfold bump; split <;> rfl
        have e6 := hwf.el
        unfold ChM
        rw [e1, e2]
        omega
    ·rw [ht]
     obtain ⟨nv, hpg, hnv⟩ := hrd.pg
     have hr1 := hrd.rd
     have yes : isDiv [c] = true → ChJ src B r p w1 st1 [c] [vi st1.sites] (put (dr w1) p 2 (vi (st1.sites + 1 : Nat))) := by
      intro hd
      refine ⟨by unfold siteOf; rw [if_pos hd], ((Fr.refl _ _ _ _).dr).put h.pB (.inr (.inl rfl)), ?_⟩
      unfold bump; rw [if_pos hd]
      exact hrd.dr.put_sites _
     have hsi : st1.sites ≤ 400 := by have := hwf.sa; have := hwf.ae; have := hwf.el; omega
     have hws : IntKind.i64.wrap ((st1.sites : Int) + 1) = ((st1.sites + 1 : Nat) : Int) := by rw [wrap64 (by omega) (by omega)]; omega
     refine condG_split (fun h47 => ?_) (fun h47 => ?_)
     ·rw [h47]
      simp only [↓RT, ↓RG, RV, cond_false]
      refine condP_split (fun h37 => ?_) (fun h37 => ?_)
      ·simp only [↓RT, ↓RG, RV, hr1, hpg, hws]
       exact yes (by unfold isDiv; rw [h37]; simp)
      ·refine ⟨?_, (Fr.refl _ _ _ _).dr, ?_⟩
       ·unfold siteOf isDiv; rw [h47, h37]; rfl
       ·unfold bump isDiv; rw [h47, h37]; exact hrd.dr
     ·have h47 : ([c] == [47]) = true := by revert h47; cases ([c] == [47]) <;> simp
      rw [h47]
      simp only [↓RT, ↓RG, RV, cond_true, hr1, hpg, hws]
      exact yes (by unfold isDiv; rw [h47]; rfl)
   ·refine ⟨⟨i + 1, rfl, rfl, by omega, fun j d hj hd' => ?_⟩, ?_⟩
    ·by_cases hji : j = i
     ·rw [hji, hc] at hd'; cases hd'; simpa using hb
     ·exact hno j d (by omega) hd'
    ·simp [SgM]; omega
  ·have hd : decide ((i : Int) < ((signsOf mul).length : Int)) = false := by simp; omega
   simp only [hd, ↓RT, ↓RG, RV]
   have hns : isSign mul (tok src st1) = false := isSign_none fun j c hj => by
    have := (List.getElem?_eq_some_iff.1 hj).1
    exact hno j c (by omega) hj
   simp only [ex, hns] at hex
   cases hex
   exact ⟨hfr.dr, _, rfl, hrd.dr, hsum.keep (KeepN.refl w1).dr⟩
 ·simp only [↓rCallF hf]
  cases hex1 : ex src n (partJob mul) st with
  | none => rw [hex1] at hres; simp [Res.bind] at hres
  | some res1 =>
  rw [hex1] at hres
  refine cl_of (hpart n (by omega) w _ _ h hw hop hex1) ?_
  rintro e w5 ⟨hfr5, hres5⟩
  cases res1 with
  | err a x =>
    obtain ⟨c', rfl, hc'⟩ := hres5
    simp only [Res.bind] at hres
    cases hres
    exact ⟨hfr5, c', rfl, hc'⟩
  | ok y st' =>
    obtain ⟨v', rfl, hrd5, hv'⟩ := hres5
    simp only [Res.bind] at hres
    have hk5 := ex_kept _ _ _ _ _ hw hex1
    exact ⟨n, y, st', _, v', rfl, by omega, hres, hfr5, hrd5, hk5.wf, by rw [hk5.op]; exact hop, hv'⟩
end Go.Inv
namespace Go.Inv
open Go.Sh
theorem Fr.grown {B r p : Nat} {w1 w2 w3 : World} {row : Option Nat} (h : Fr B r p w1 w2) (hg : w2.grownBy w3 row) (hB : B ≤ w1.heap.size)
 (hrow : ∀ k, row = some k → B ≤ k ∧ ∃ cs f, w2.heap[k]? = some (.cells cs tyInt f)) : Fr B r p w1 w3 := by
 have hs := h.size
 refine ⟨Nat.le_trans h.size hg.size, fun c hc => ?_, fun c cs t f h1 h2 h3 h4 => ?_, fun c y h1 h2 => ?_, h.out.grown hg⟩
 ·rw [hg.block c (by omega) (fun e => by have := (hrow c e.symm).1; omega)]; exact h.old c hc
 ·have h5 := h.keep c cs t f h1 h2 h3 h4
  rw [hg.block c (lt_of_heap h5) (fun e => by
   obtain ⟨_, cs', f', h6⟩ := hrow c e.symm
   rw [h5] at h6; cases h6; exact h2 rfl)]
  exact h5
 ·have h5 := h.other c y h1 h2
  rw [hg.block c (lt_of_heap h5) (fun e => by
   obtain ⟨_, cs', f', h6⟩ := hrow c e.symm
   rw [h5] at h6; cases h6; exact h2 _ _ _ rfl)]
  exact h5
theorem own_row {B : Nat} {w : World} {v : Value} {l : List Nat} (h : NumsAt B w v l) {k : Nat} (hk : v.ownBlock = some k) : B ≤ k ∧ ∃ cs f, w.heap[k]? = some (.cells cs tyInt f) := by
 rcases h.2 with ⟨rfl, _⟩ | ⟨nb, cap, c, rfl, h2, h3, _⟩
 ·cases hk
 ·cases hk; exact ⟨h2, _, _, h3⟩
theorem grown_keep {B : Nat} {w w' : World} {v : Value} {l : List Nat} (h : NumsAt B w v l) (hg : w.grownBy w' v.ownBlock) {i : Nat} {cs : Array Value} {t : Nat} {f : Nat × Nat} (hi : w.heap[i]? = some (.cells cs t f)) (ht : t ≠ tyInt) :
 w'.heap[i]? = some (.cells cs t f) := by
 rw [hg.block i (lt_of_heap hi) (fun e => by
  obtain ⟨_, cs', f', h6⟩ := own_row h e.symm
  rw [hi] at h6; cases h6; exact ht rfl)]
 exact hi
theorem numOf_le {t : Bytes} {k : Nat} (h : numOf t = some k) : k ≤ 32767 := by
 unfold numOf at h
 split at h
 ·split at h
  ·cases h
  ·rename_i hn; cases h; omega
 ·cases h
theorem wrap16_nat {k : Nat} (h : k ≤ 32767) : IntKind.i16.wrap (k : Int) = k := by
 have h1 : (k : Int) % 65536 = k := by omega
 simp [IntKind.wrap, IntKind.bits, IntKind.signed, h1]; omega
theorem RdAt.put_nums {src : Bytes} {B r p : Nat} {w w' : World} {st : RS} {nv v' : Value} {k : Nat} (h : RdAt src B r p w st)
 (hpg : w.heap[p]? = some (.cells #[.slice none 0 0, vi st.points, vi st.sites, nv] tyProg (0, 0))) (hnv : NumsAt B w nv st.nums)
 (hg : w.grownBy w' nv.ownBlock) (hown : w'.ownsRow B tyInt 1 v' (st.nums.length + 1) ((st.nums.map fun n : Nat => vi n) ++ [vi (k : Nat)])) :
 RdAt src B r p (put w' p 3 v') { st with nums := st.nums ++ [k] } := by
 have hr' := grown_keep hnv hg h.rd (by decide)
 have hp' := grown_keep hnv hg hpg (by decide)
 have h1 := h.rB; have h2 := h.pB; have h3 := h.gB
 refine ⟨?_, ⟨v', ?_, ?_⟩, h.rB, h.pB, h.rp, ?_, h.gB⟩
 ·rw [heap_put_ne h.rp, hr']
 ·rw [heap_put_self, hp', map_setObj]; simp
 ·have : NumsAt B w' v' (st.nums ++ [k]) := by unfold NumsAt; simpa using hown
  refine this.keep fun c cs hcs => ?_
  have : c ≠ p := fun e => by rw [e, hp'] at hcs; cases hcs
  rw [heap_put_ne this, hcs]
 ·obtain ⟨t, f, hl⟩ := h.rl
  refine ⟨t, f, ?_⟩
  rw [heap_put_ne (by omega), hg.block _ (lt_of_heap hl) (fun e => by have := (own_row hnv e.symm).1; omega)]
  exact hl
theorem sl22 : OneSl pr 22 tyInt := oneSl_of (by kernel_rfl)
theorem bs_int (n : Int) (w : World) : (sBuildSlice 22 1 [(0, vi n)]).run pr w = .ok (.value (.slice (some ⟨w.heap.size, 0, none⟩) 1 1)) (w.alloc (.cells #[vi n] tyInt)) := by kernel_rfl
theorem o_bs_int (n : Int) : ∀ E w K, o pr E w (sBuildSlice 22 1 [(0, vi n)]) K = K (.slice (some ⟨w.heap.size, 0, none⟩) 1 1) (w.alloc (.cells #[vi n] tyInt)) := fun _ w _ => o_val (bs_int n w)
theorem bd_Name (n : Int) (w : World) : (sBuild tyName [(0, vi n)]).run pr w = .ok (.value (.agg #[vi n])) w := by kernel_rfl
theorem bd_Num (n : Int) (w : World) : (sBuild tyNum [(0, .int .i16 n)]).run pr w = .ok (.value (.agg #[.int .i16 n])) w := by kernel_rfl
theorem bd_Minus (t : Nat) (u : Value) (w : World) : (sBuild tyMinus [(0, .iface t u)]).run pr w = .ok (.value (.agg #[.iface t u])) w := by kernel_rfl
theorem ok_unary : okFn pr n_rd_unary = true := by kernel_rfl
theorem ok_unary1 : okFn pr n_rd_unary_1 = true := by kernel_rfl
theorem ok_product : okFn pr n_rd_product = true := by kernel_rfl
theorem ok_sum : okFn pr n_rd_sum = true := by kernel_rfl
def minusR : Option (Res Sum) → Res Sum
 | some (.ok x st) => .ok (.minus x) st
 | some (.err a e) => .err a e
 | none => .err 0 0
def ExOk (src : Bytes) (B r p f : Nat) (n : Nat) (j : Job) : Prop := ∀ w st res, RdAt src B r p w st → Wf src st → st.op ≤ 12 → ex src n j st = some res → Calls pr f #[pt r 0] w (Rd src B r p w SumAt res)
theorem unary1_ok {src : Bytes} {B r p n b : Nat} {w : World} {st : RS} {res : Option (Res Sum)} (hun : ExOk src B r p n_rd_unary n .un) (h : RdAt src B r p w st) (hw : Wf src st) (hop : st.op ≤ 12)
 (hb : w.heap[b]? = some (.cells #[pt r 0] tyReaderP (0, 0))) (hres : ex src n .un st = res) (hsome : res ≠ none) :
 Calls pr n_rd_unary_1 #[pt b 0] w (Rd src B r p w SumAt (minusR res)) := by
 refine sh_rd_unary_1_ok _ _ _ ?_
 unfold sh_rd_unary_1
 simp only [↓RT, ↓RG, RV, hb]
 cases res with
 | none => exact absurd rfl hsome
 | some res =>
 refine cl_of (hun w st res h hw hop hres) ?_
 rintro e w2 ⟨hfr, hr2⟩
 cases res with
 | err a x =>
   obtain ⟨c, rfl, hc⟩ := hr2
   exact ⟨hfr, c, rfl, hc⟩
 | ok x st' =>
   obtain ⟨v, rfl, hrd, hv⟩ := hr2
   obtain ⟨t, u, rfl⟩ := hv.iface
   simp only [endK, ↓RT, ↓RG, RV, ↓o_build (bd_Minus _ _), cells_agg]
   exact ⟨hfr.alloc h.B_le _, _, rfl, hrd.alloc _, w2.heap.size, _, rfl, heap_alloc_self _, hv.keep ((KeepN.refl _).alloc _)⟩
theorem numI_some {t : Bytes} {k : Nat} (h : numOf t = some k) : numI t = k := by unfold numI; rw [h]
theorem numI_no {t : Bytes} (h : numOf t = none) : numI t = -1 := by unfold numI; rw [h]
theorem varI_some {t : Bytes} {k : Nat} (h : varOf t = some k) : varI t = k := by unfold varI; rw [h]
theorem varI_no {t : Bytes} (h : varOf t = none) : varI t = -1 := by unfold varI; rw [h]
def JN (w0 : World) (k : Option Nat) (vs : List Value) (w' : World) : Prop := ∃ n : Nat, k = some n ∧ vs = [vi n] ∧ w' = dr w0
theorem unary_ok {src : Bytes} {B r p n : Nat} (hsm : src.length ≤ 400) (hun : ExOk src B r p n_rd_unary n .un) (hsu : ExOk src B r p n_rd_sum n .su) :
 ExOk src B r p n_rd_unary (n + 1) .un := by
 intro w st res h hw hop hres
 refine sh_rd_unary_ok _ _ _ ?_
 unfold sh_rd_unary
 have hB := h.B_le
 simp only [↓RT, ↓RG, RV, cells_pt]
 generalize hw0 : w.alloc (.cells #[pt r 0] tyReaderP) = w0
 generalize hbe : w.heap.size = b at *
 have hb0 : w0.heap[b]? = some (.cells #[pt r 0] tyReaderP (0, 0)) := by rw [← hw0, ← hbe]; exact heap_alloc_self _
 have h0 : RdAt src B r p w0 st := by rw [← hw0]; exact h.alloc _
 have hf0 : Fr B r p w w0 := by rw [← hw0]; exact (Fr.refl _ _ _ _).alloc (by omega) _
 have ntb : NodeTy tyReaderP := ⟨by decide, by decide, by decide⟩
 simp only [hb0, ↓RT, ↓RG, RV]
 refine cl_of (token_ok h0 hw.ae hw.el) ?_
 rintro _ w1 ⟨rfl, rfl⟩
 simp only [endK, ↓RT, ↓RG, RV, hb0]
 simp only [ex] at hres
 refine condP_split (fun hm => ?_) (fun hm => ?_)
 ·-- minus
  rw [if_pos hm] at hres
  have ht : tok src st = [45] := by simpa using hm
  have hrw : res = wthS src [45] st (minusR (ex src n .un { nextS src st with op := st.op + 1 })) ∧ (st.op < 12 → ex src n .un { nextS src st with op := st.op + 1 } ≠ none) := by
   unfold wthS
   rw [if_pos ht]
   by_cases ho : st.op = 12
   ·rw [if_pos (by simpa using ho)] at hres
    cases hres
    exact ⟨by rw [if_pos ho], fun _ => by omega⟩
   ·rw [if_neg (by simpa using ho)] at hres
    rw [if_neg ho]
    rcases bind_cases hres with ⟨x, st', h1, h2⟩ | ⟨a, e, h1, h2⟩
    ·cases h2; rw [h1]; exact ⟨rfl, fun _ => by simp⟩
    ·cases h2; rw [h1]; exact ⟨rfl, fun _ => by simp⟩
  rw [hrw.1]
  refine cl_of (withinSum_ok (val := SumAt) (t := [45]) (f := n_rd_unary_1) (x := #[]) (y := #[pt b 0]) h0.dr hw hsm hop ok_unary1 (fun _ _ _ _ hk => SumAt.keep hk)
   (inn := minusR (ex src n .un { nextS src st with op := st.op + 1 })) ?_ ?_) ?_
  ·intro _ ho w1 hfr hrd
   exact unary1_ok hun hrd (hw.next.op _) (by show st.op + 1 ≤ 12; omega) ((hfr.keepN h0.dr) _ _ _ ntb hb0) rfl (hrw.2 ho)
  ·intro a st' _ hi
   cases hx : ex src n .un { nextS src st with op := st.op + 1 } with
   | none => rw [hx] at hi; cases hi
   | some q =>
     rw [hx] at hi
     cases q with
     | err a e => cases hi
     | ok y st2 => cases hi; exact (ex_kept _ _ _ _ _ (hw.next.op _) hx).op
  ·rintro e w2 ⟨hfr, hr2⟩
   generalize wthS src [45] st _ = q at hr2
   cases q with
   | err a x => obtain ⟨c, rfl, hc⟩ := hr2; exact ⟨hf0.dr.trans hfr, c, rfl, hc⟩
   | ok x st' => obtain ⟨v, rfl, hrd, hv⟩ := hr2; exact ⟨hf0.dr.trans hfr, v, rfl, hrd, hv⟩
 rw [if_neg (by simp [hm])] at hres
 refine condP_split (fun hm2 => ?_) (fun hm2 => ?_)
 ·rw [if_pos hm2] at hres
  have ht : tok src st = [40] := by simpa using hm2
  cases hx : ex src n .su { nextS src st with op := st.op + 1 } with
  | none =>
    by_cases ho : st.op = 12
    ·rw [if_pos (by simpa using ho)] at hres
     cases hres
     refine cl_of (withinSum_ok (val := SumAt) (t := [40]) (f := n_rd_sum) (x := #[pt r 0]) (y := #[]) h0.dr hw hsm hop ok_sum (fun _ _ _ _ hk => SumAt.keep hk) (inn := .err 0 0) (fun _ hh => by omega) (fun _ _ _ hh => by cases hh)) ?_
     rintro e w2 ⟨hfr, hr2⟩
     unfold wthS at hr2
     rw [if_pos ht, if_pos ho] at hr2
     obtain ⟨c, rfl, hc⟩ := hr2; exact ⟨hf0.dr.trans hfr, c, rfl, hc⟩
    ·rw [if_neg (by simpa using ho), hx] at hres
     cases hres
  | some q =>
    refine cl_of (withinSum_ok (val := SumAt) (t := [40]) (f := n_rd_sum) (x := #[pt r 0]) (y := #[]) h0.dr hw hsm hop ok_sum (fun _ _ _ _ hk => SumAt.keep hk)
     (inn := q) ?_ ?_) ?_
    ·intro _ ho w1 hfr hrd
     exact hsu _ _ _ hrd (hw.next.op _) (by show st.op + 1 ≤ 12; omega) hx
    ·intro a st' _ hi
     subst hi
     exact (ex_kept _ _ _ _ _ (hw.next.op _) hx).op
    ·rintro e w2 ⟨hfr, hr2⟩
     unfold wthS at hr2
     rw [if_pos ht] at hr2
     by_cases ho : st.op = 12
     ·rw [if_pos (by simpa using ho)] at hres
      cases hres
      rw [if_pos ho] at hr2
      obtain ⟨c, rfl, hc⟩ := hr2; exact ⟨hf0.dr.trans hfr, c, rfl, hc⟩
     ·rw [if_neg (by simpa using ho), hx] at hres
      rw [if_neg ho] at hr2
      cases q with
      | err a x =>
        cases hres
        obtain ⟨c, rfl, hc⟩ := hr2; exact ⟨hf0.dr.trans hfr, c, rfl, hc⟩
      | ok x st' =>
        obtain ⟨v, rfl, hrd, hv⟩ := hr2
        have hk5 := ex_kept _ _ _ _ _ (hw.next.op _) hx
        have hb2 : w2.heap[b]? = some (.cells #[pt r 0] tyReaderP (0, 0)) := (hfr.keepN h0.dr) _ _ _ ntb hb0
        simp only [endK, ↓RT, ↓RG, RV, hb2]
        simp only [Res.bind] at hres
        cases hts : takeS src [41] { st' with op := st'.op - 1 } with
        | none => rw [hts] at hres; cases hres
        | some q2 =>
        rw [hts] at hres
        refine cl_of (take_ok hrd (hk5.wf.op _) hsm hts) ?_
        rintro e w3 ⟨hfr3, hr3⟩
        cases q2 with
        | err a x => cases hres; obtain ⟨c, rfl, hc⟩ := hr3; exact ⟨(hf0.dr.trans hfr).trans hfr3, c, rfl, hc⟩
        | ok u st2 =>
          cases hres
          obtain ⟨_, rfl, hrd3, rfl⟩ := hr3
          exact ⟨(hf0.dr.trans hfr).trans hfr3, v, rfl, hrd3, hv.keep (hfr3.keepN hrd)⟩
 rw [if_neg (by simp [hm2])] at hres
 refine cl_of (variable_ok h0.dr hw) ?_
 rintro _ w1 ⟨rfl, rfl⟩
 simp only [endK, ↓RT, ↓RG, RV, hb0]
 cases hv : varOf (tok src st) with
 | some v =>
   rw [hv] at hres
   cases hres
   have : decide ((varI (tok src st)) ≥ 0) = true := by rw [varI_some hv]; simp
   simp only [this, ↓RT, ↓RG, RV, hb0]
   rw [varI_some hv]
   refine cl_of (next_ok h0.dr.dr hw.el hsm) ?_
   rintro _ w2 ⟨rfl, hfr, hrd⟩
   simp only [endK, ↓RT, ↓RG, RV, ↓o_build (bd_Name _), cells_agg]
   exact ⟨(hf0.dr.dr.trans hfr).alloc (by omega) _, _, rfl, hrd.alloc _, w2.heap.size, rfl, heap_alloc_self _⟩
 | none =>
   rw [hv] at hres
   have : decide ((varI (tok src st)) ≥ 0) = false := by rw [varI_no hv]; rfl
   simp only [this, ↓RT, ↓RG, RV, hb0]
   refine ⟨JN (dr (dr w0)) (numOf (tok src st)), ?_, ?_⟩
   ·rintro e1 w2 ⟨k, hk, he, rfl⟩
    have he5 : e1 5 = vi (k : Nat) := by simpa using he
    rw [he5]
    rw [hk] at hres
    cases hres
    simp only [↓RT, ↓RG, RV, hb0]
    have h2 : RdAt src B r p (dr (dr (dr w0))) st := h0.dr.dr.dr
    refine cl_of (next_ok h2 hw.el hsm) ?_
    rintro _ w2 ⟨rfl, hfr, hrd⟩
    have hb2 : w2.heap[b]? = some (.cells #[pt r 0] tyReaderP (0, 0)) := (hfr.keepN h2) _ _ _ ntb hb0
    have hr2 := hrd.rd
    obtain ⟨nv, hpg, hnv⟩ := hrd.pg
    have ea : ∀ (x : Obj) (i : Nat) (y : Obj), w2.heap[i]? = some y → ((dr w2).alloc x).heap[i]? = some y := fun x i y hy => by
     have := lt_of_heap hy
     rw [heap_alloc_ne (by rw [size_dr]; omega)]; exact hy
    simp only [endK, ↓RT, ↓RG, RV, hb2, hr2, hpg, ↓o_bs_int, ea _ _ _ hb2, ea _ _ _ hr2, ea _ _ _ hpg]
    have h3 := hrd.dr.alloc (.cells #[vi (k : Nat)] tyInt)
    have hpg3 := ea (.cells #[vi (k : Nat)] tyInt) _ _ hpg
    have hnv3 : NumsAt B ((dr w2).alloc (.cells #[vi (k : Nat)] tyInt)) nv st.nums := hnv.keep fun c cs hc => ea _ _ _ hc
    have hb3 := ea (.cells #[vi (k : Nat)] tyInt) _ _ hb2
    have hf3 : Fr B r p w ((dr w2).alloc (.cells #[vi (k : Nat)] tyInt)) := ((hf0.dr.dr.dr.trans hfr).dr).alloc (by omega) _
    have hna := hw.na; have hae := hw.ae; have hel := hw.el
    have hB3 : B ≤ ((dr w2).alloc (.cells #[vi (k : Nat)] tyInt)).heap.size := by have := hf3.size; omega
    refine o_append1 sl22 hnv3 (heap_alloc_self _) rfl (by omega) hB3 ?_
    intro v' w' hown hg
    have hr4 := grown_keep hnv3 hg h3.rd (by decide)
    have hp4 := grown_keep hnv3 hg hpg3 (by decide)
    have hb4 := grown_keep hnv3 hg hb3 (by decide)
    have hv1 : isOne v' = true := by
     rcases hown.2 with ⟨rfl, _⟩ | ⟨_, _, _, rfl, _⟩ <;> rfl
    have h5 := RdAt.put_nums (k := k) h3 hpg3 hnv3 hg hown
    have hf4 := hf3.grown hg (by omega) (fun q hq => own_row hnv3 hq)
    have hf5 := hf4.put (i := 3) (v := v') h.pB (.inr (.inl rfl))
    simp only [hr4, hp4, hb4, hv1, wrap16_nat (numOf_le hk), ↓RT, ↓RG, RV, ↓o_build (bd_Num _), cells_agg]
    exact ⟨hf5.alloc (by omega) _, _, rfl, h5.alloc _, _, rfl, heap_alloc_self _⟩
   ·refine cl_of (number_ok h0.dr.dr hw hsm) ?_
    rintro _ w2 ⟨rfl, rfl⟩
    simp only [endK, ↓RT, ↓RG, RV]
    cases hk : numOf (tok src st) with
    | some k =>
      rw [numI_some hk]
      have : decide ((k : Int) < 0) = false := by simp
      simp only [this, ↓RT, ↓RG, RV]
      exact ⟨k, rfl, rfl, rfl⟩
    | none =>
      rw [numI_no hk]
      rw [hk] at hres
      cases hres
      simp only [show decide ((-1 : Int) < 0) = true from rfl, ↓RT, ↓RG, RV, hb0]
      refine cl_of (leave_ok (α := Sum) h0.dr.dr.dr 2 SumAt) ?_
      rintro _ w2 ⟨hfr, c, rfl, hc⟩
      exact ⟨hf0.dr.dr.dr.trans hfr, c, rfl, hc⟩
theorem ex_ok {src : Bytes} {B r p : Nat} (hsm : src.length ≤ 400) : ∀ n, (∀ m, m ≤ n → ExOk src B r p n_rd_unary m .un) ∧ (∀ m, m ≤ n → ExOk src B r p n_rd_product m .pr) ∧ (∀ m, m ≤ n → ExOk src B r p n_rd_sum m .su)
 | 0 => by
   refine ⟨?_, ?_, ?_⟩ <;> (intro m hm w st res _ _ _ hres; obtain rfl : m = 0 := (by omega); simp [ex] at hres)
 | n + 1 => by
   obtain ⟨h1, h2, h3⟩ := ex_ok hsm n
   refine ⟨fun m hm => ?_, fun m hm => ?_, fun m hm => ?_⟩
   ·by_cases hle : m ≤ n
    ·exact h1 m hle
    ·obtain rfl : m = n + 1 := by omega
     exact unary_ok hsm (h1 n (by omega)) (h3 n (by omega))
   ·by_cases hle : m ≤ n
    ·exact h2 m hle
    ·obtain rfl : m = n + 1 := by omega
     intro w st res h hw hop hres
     simp only [ex] at hres
     refine sh_rd_product_ok _ _ _ ?_
     unfold sh_rd_product
     simp only [↓RT, ↓RG, RV]
     refine cl_of (chain_ok (mul := true) h hw hsm hop ok_unary (fun m hm w1 st1 res1 a b c d => h1 m hm w1 st1 res1 a b c d) hres) ?_
     rintro e w2 ⟨hfr, hr2⟩
     cases res with
     | err a x => obtain ⟨c, rfl, hc⟩ := hr2; exact ⟨hfr, c, rfl, hc⟩
     | ok x st' => obtain ⟨v, rfl, hrd, hv⟩ := hr2; exact ⟨hfr, v, rfl, hrd, hv⟩
   ·by_cases hle : m ≤ n
    ·exact h3 m hle
    ·obtain rfl : m = n + 1 := by omega
     intro w st res h hw hop hres
     simp only [ex] at hres
     refine sh_rd_sum_ok _ _ _ ?_
     unfold sh_rd_sum
     simp only [↓RT, ↓RG, RV]
     refine cl_of (chain_ok (mul := false) h hw hsm hop ok_product (fun m hm w1 st1 res1 a b c d => h2 m hm w1 st1 res1 a b c d) hres) ?_
     rintro e w2 ⟨hfr, hr2⟩
     cases res with
     | err a x => obtain ⟨c, rfl, hc⟩ := hr2; exact ⟨hfr, c, rfl, hc⟩
     | ok x st' => obtain ⟨v, rfl, hrd, hv⟩ := hr2; exact ⟨hfr, v, rfl, hrd, hv⟩
theorem sum_ok {src : Bytes} {B r p : Nat} (hsm : src.length ≤ 400) (n : Nat) : ExOk src B r p n_rd_sum n .su := (ex_ok hsm n).2.2 n (Nat.le_refl _)
end Go.Inv
namespace Go.Inv
open Go.Sh
theorem al_Cond (w : World) : (sAlloc tyCond).run pr w = .ok (.value (pt w.heap.size 0)) (w.alloc (.cells #[.nilIface, .nilIface, vi 0] tyCond)) := by kernel_rfl
theorem bd_Cond (t : Nat) (u : Value) (w : World) : (sBuild tyCond [(0, .iface t u)]).run pr w = .ok (.value (.agg #[.iface t u, .nilIface, vi 0])) w := by kernel_rfl
theorem al_Point (w : World) : (sAlloc tyPoint).run pr w = .ok (.value (pt w.heap.size 0)) (w.alloc (.cells #[vi 0] tyPoint)) := by kernel_rfl
theorem bd_Point (n : Int) (w : World) : (sBuild tyPoint [(0, vi n)]).run pr w = .ok (.value (.agg #[vi n])) w := by kernel_rfl
theorem bd_Get (n v : Int) (w : World) : (sBuild tyGet [(0, .agg #[vi n]), (1, vi v)]).run pr w = .ok (.value (.agg #[vi n, vi v])) w := by kernel_rfl
theorem bd_Set (n v : Int) (w : World) : (sBuild tySet [(0, .agg #[vi n]), (1, vi v)]).run pr w = .ok (.value (.agg #[vi n, vi v, .nilIface])) w := by kernel_rfl
theorem bd_Assert (n v : Int) (w : World) : (sBuild tyAssert [(0, .agg #[vi n]), (2, vi v)]).run pr w = .ok (.value (.agg #[vi n, .nilIface, .nilIface, vi 0, vi v])) w := by kernel_rfl
theorem bd_If (n : Int) (t1 t2 : Nat) (u1 u2 : Value) (k : Int) (w : World) : (sBuild tyIf [(0, .agg #[vi n]), (1, .agg #[.iface t1 u1, .iface t2 u2, vi k])]).run pr w = .ok (.value (.agg #[vi n, .iface t1 u1, .iface t2 u2, vi k, .slice none 0 0, .slice none 0 0, .bool false])) w := by kernel_rfl
theorem bd_While (n : Int) (t1 t2 : Nat) (u1 u2 : Value) (k : Int) (w : World) : (sBuild tyWhile [(0, .agg #[vi n]), (1, .agg #[.iface t1 u1, .iface t2 u2, vi k])]).run pr w = .ok (.value (.agg #[vi n, .iface t1 u1, .iface t2 u2, vi k, .slice none 0 0])) w := by kernel_rfl
theorem bs_stmt (t : Nat) (u : Value) (w : World) : (sBuildSlice 83 1 [(0, .iface t u)]).run pr w = .ok (.value (.slice (some ⟨w.heap.size, 0, none⟩) 1 1)) (w.alloc (.cells #[.iface t u] tyStmt)) := by kernel_rfl
theorem sl83 : OneSl pr 83 tyStmt := oneSl_of (by kernel_rfl)
theorem rs_agg {P : Program} {w : World} {t n b i : Nat} {v : Value} {K : Value → Prop} (h : aggT P t = some n) (hv : blkRow (w.heap[b]?) i n = some v) (hK : K v) : rs P w (pt b i) t K := by
 obtain ⟨h1, h2⟩ := aggT_spec (w := w) h
 unfold blkRow at hv
 split at hv
 ·rename_i c T f hb
  split at hv
  ·rename_i hle
   cases hv
   have := loadCells_run (P := P) hb n 0 #[] (by omega)
   exact ⟨_, by simp [asAddr, loadVar, h1, h2, loadCells, this], hK⟩
  ·cases hv
 ·cases hv
theorem rs_one {P : Program} {w : World} {t b i : Nat} {v : Value} {K : Value → Prop} (h : plainT P t = true) (hv : blkCell (w.heap[b]?) i = some v) (hK : K v) : rs P w (pt b i) t K := by
 have hc : w.cell? ⟨b, i, none⟩ = some v := by rw [cell?_pt]; exact hv
 exact ⟨v, by simp [asAddr, loadVar, isAgg_plain h, load, Sem.run, hc], hK⟩
def SumTy (t : Nat) : Prop := t = tyNum ∨ t = tyName ∨ t = tyMinus ∨ t = tyTwo
def KeepS (w w' : World) : Prop := ∀ (c : Nat) (cs : Array Value) (t : Nat), SumTy t → Node w c cs t → Node w' c cs t
theorem SumTy.node {t : Nat} (h : SumTy t) : NodeTy t := by rcases h with rfl | rfl | rfl | rfl <;> exact ⟨by decide, by decide, by decide⟩
theorem KeepN.keepS {w w' : World} (h : KeepN w w') : KeepS w w' := fun c cs t ht => h c cs t ht.node
theorem SumAt.keepS {w w' : World} (h : KeepS w w') : ∀ {x : Sum} {v : Value}, SumAt w v x → SumAt w' v x
 | .num _, _, ⟨b, h1, h2⟩ => ⟨b, h1, h _ _ _ (.inl rfl) h2⟩
 | .name _, _, ⟨b, h1, h2⟩ => ⟨b, h1, h _ _ _ (.inr (.inl rfl)) h2⟩
 | .minus _, _, ⟨b, u, h1, h2, h3⟩ => ⟨b, u, h1, h _ _ _ (.inr (.inr (.inl rfl))) h2, h3.keepS h⟩
 | .two _ _ _ _, _, ⟨b, u1, u2, h1, h2, h3, h4⟩ => ⟨b, u1, u2, h1, h _ _ _ (.inr (.inr (.inr rfl))) h2, h3.keepS h, h4.keepS h⟩
theorem keepS_put {w : World} {b i t : Nat} {cs : Array Value} {v : Value} (hb : Node w b cs t) (ht : ¬ SumTy t) : KeepS w (put w b i v) := fun c cs' t' ht' hn => by
 have : c ≠ b := by rintro rfl; have h1 : Node w c cs t := hb; unfold Node at h1 hn; rw [hn] at h1; cases h1; exact ht ht'
 unfold Node; rw [heap_put_ne this]; exact hn
theorem node_put {w : World} {b i t : Nat} {cs : Array Value} {v : Value} (hb : Node w b cs t) : Node (put w b i v) b (cs.setIfInBounds i v) t := by
 unfold Node at *; rw [heap_put_self, hb, map_setObj]
theorem RdAt.put_node {src : Bytes} {B r p b i t : Nat} {w : World} {st : RS} {cs : Array Value} {v : Value} (h : RdAt src B r p w st) (hn : Node w b cs t) (ht : NodeTy t) (hB : B ≤ b) : RdAt src B r p (put w b i v) st := by
 obtain ⟨nv, hp, hnv⟩ := h.pg
 have hn' : w.heap[b]? = some (.cells cs t (0, 0)) := hn
 have nr : r ≠ b := by rintro rfl; rw [h.rd] at hn'; cases hn'; exact ht.2.1 rfl
 have np : p ≠ b := by rintro rfl; rw [hp] at hn'; cases hn'; exact ht.2.2 rfl
 refine ⟨by rw [heap_put_ne nr]; exact h.rd, ⟨nv, by rw [heap_put_ne np]; exact hp, hnv.keep fun c cs' hc => ?_⟩, h.rB, h.pB, h.rp, ?_, h.gB⟩
 ·have : c ≠ b := by rintro rfl; rw [hc] at hn'; cases hn'; exact ht.1 rfl
  rw [heap_put_ne this]; exact hc
 ·obtain ⟨T, f, hl⟩ := h.rl
  have := h.gB
  exact ⟨T, f, by rw [heap_put_ne (by omega)]; exact hl⟩
def CondAt (w : World) (v : Value) (c : Cond) : Prop := ∃ t1 u1 t2 u2, v = .agg #[.iface t1 u1, .iface t2 u2, vi c.rel] ∧ SumAt w (.iface t1 u1) c.l ∧ SumAt w (.iface t2 u2) c.r
theorem o_al {t : Nat} {cs : Array Value} (h : ∀ w : World, (sAlloc t).run pr w = .ok (.value (pt w.heap.size 0)) (w.alloc (.cells cs t))) : ∀ E w K, o pr E w (sAlloc t) K = K (pt w.heap.size 0) (w.alloc (.cells cs t)) := fun _ w _ => o_val (h w)
def CdJ (src : Bytes) (B r p b d : Nat) (w0 : World) (st : RS) (l : Sum) (t : Nat) (u : Value) (vs : List Value) (w : World) : Prop :=
 vs = [] ∧ ∃ k, relOf (tok src st) = some k ∧ Node w d #[.iface t u, .nilIface, vi (k : Nat)] tyCond ∧ Node w b #[.nilIface, .nilIface, vi 0] tyCond ∧ RdAt src B r p w st ∧ Fr B r p w0 w ∧ SumAt w (.iface t u) l
theorem ntSum : ¬ SumTy tyCond := by rintro (h | h | h | h) <;> exact absurd h (by decide)
theorem blkRow3 (a b c : Value) (t : Nat) (f : Nat × Nat) : blkRow (some (.cells #[a, b, c] t f)) 0 3 = some (.agg #[a, b, c]) := rfl
theorem cond_ok {src : Bytes} {B r p n : Nat} {w : World} {st : RS} {res : Res Cond} (hsm : src.length ≤ 400) (h : RdAt src B r p w st) (hw : Wf src st) (hop : st.op ≤ 12) (hres : condS src n st = some res) :
 Calls pr n_rd_cond #[pt r 0] w (Rd src B r p w CondAt res) := by
 refine sh_rd_cond_ok _ _ _ ?_
 unfold sh_rd_cond
 have hB := h.B_le
 unfold condS at hres
 simp only [↓RT, ↓RG, RV, ↓o_al al_Cond]
 generalize hw0 : w.alloc (.cells #[.nilIface, .nilIface, vi 0] tyCond) = w0
 generalize hbe : w.heap.size = b at *
 have hb0 : Node w0 b #[.nilIface, .nilIface, vi 0] tyCond := by rw [← hw0, ← hbe]; exact heap_alloc_self _
 have h0 : RdAt src B r p w0 st := by rw [← hw0]; exact h.alloc _
 have hf0 : Fr B r p w w0 := by rw [← hw0]; exact (Fr.refl _ _ _ _).alloc (by omega) _
 have ntb : NodeTy tyCond := ⟨by decide, by decide, by decide⟩
 cases hx : ex src n .su st with
 | none => rw [hx] at hres; cases hres
 | some q =>
 rw [hx] at hres
 refine cl_of (sum_ok hsm n w0 st q h0 hw hop hx) ?_
 rintro e w1 ⟨hf1, hr1⟩
 cases q with
 | err a x => cases hres; obtain ⟨c, rfl, hc⟩ := hr1; exact ⟨hf0.trans hf1, c, rfl, hc⟩
 | ok l st1 =>
 simp only [Res.bind] at hres
 obtain ⟨v1, rfl, h1, hv1⟩ := hr1
 have hb1 : Node w1 b _ tyCond := (hf1.keepN h0) _ _ _ ntb hb0
 have hk1 := ex_kept _ _ _ _ _ hw hx
 obtain ⟨t1, u1, rfl⟩ := hv1.iface
 simp only [endK, ↓RT, ↓RG, RV, ↓o_build (bd_Cond _ _), ↓o_al al_Cond, heap_alloc_self]
 have hba : Node (w1.alloc (.cells #[.nilIface, .nilIface, vi 0] tyCond)) w1.heap.size #[.nilIface, .nilIface, vi 0] tyCond := heap_alloc_self _
 have hs1 := hf0.size
 have hs2 := hf1.size
 have hlt := lt_of_heap hb1
 have hB1 : B ≤ w1.heap.size := by omega
 generalize hd : w1.heap.size = d at *
 have hrow : okRow (some (.cells #[.nilIface, .nilIface, vi 0] tyCond (0, 0))) 0 3 = true := rfl
 have hall : [Value.iface t1 u1, .nilIface, vi 0].all isOne = true := rfl
 simp only [hrow, hall, ↓RT, ↓RG, RV, putL]
 generalize hw2 : put (put (put (w1.alloc (.cells #[.nilIface, .nilIface, vi 0] tyCond)) d 0 (.iface t1 u1)) d 1 .nilIface) d 2 (vi 0) = w2
 have hd2 : Node w2 d #[.iface t1 u1, .nilIface, vi 0] tyCond := by rw [← hw2]; exact node_put (node_put (node_put hba))
 have hr2 : RdAt src B r p w2 st1 := by
  rw [← hw2]
  exact (((h1.alloc _).put_node hba ntb hB1).put_node (node_put hba) ntb hB1).put_node (node_put (node_put hba)) ntb hB1
 have hf2 : Fr B r p w w2 := by
  rw [← hw2]
  exact ((((hf0.trans hf1).alloc (by omega) _).put hB1 (.inr (.inr (by omega)))).put hB1 (.inr (.inr (by omega)))).put hB1 (.inr (.inr (by omega)))
 have hb2 : Node w2 b #[.nilIface, .nilIface, vi 0] tyCond := by
  rw [← hw2]; unfold Node
  rw [heap_put_ne (by omega), heap_put_ne (by omega), heap_put_ne (by omega), heap_alloc_ne (by omega)]
  exact hb1
 have hv2 : SumAt w2 (.iface t1 u1) l := by
  rw [← hw2]
  exact ((hv1.keepS ((KeepN.refl _).alloc _).keepS).keepS (keepS_put hba ntSum)).keepS (keepS_put (node_put hba) ntSum) |>.keepS (keepS_put (node_put (node_put hba)) ntSum)
 refine ⟨CdJ src B r p b d w st1 l t1 u1, ?_, ?_⟩
 ·rintro _ w3 ⟨_, k, hk, hd3, hb3, hr3, hf3, hv3⟩
  rw [hk] at hres
  simp only [] at hres
  refine cl_of (next_ok hr3 hk1.wf.el hsm) ?_
  rintro _ w4 ⟨rfl, hf4, hr4⟩
  simp only [endK]
  have hd4 : Node w4 d _ tyCond := (hf4.keepN hr3) _ _ _ ntb hd3
  have hb4 : Node w4 b _ tyCond := (hf4.keepN hr3) _ _ _ ntb hb3
  have hv4 := hv3.keep (hf4.keepN hr3)
  cases hx2 : ex src n .su (nextS src st1) with
  | none => rw [hx2] at hres; cases hres
  | some q =>
  rw [hx2] at hres
  refine cl_of (sum_ok hsm n w4 _ q hr4 hk1.wf.next (by rw [show (nextS src st1).op = st1.op from rfl, hk1.op]; exact hop) hx2) ?_
  rintro e w5 ⟨hf5, hr5⟩
  cases q with
  | err a x => cases hres; obtain ⟨c, rfl, hc⟩ := hr5; exact ⟨(hf3.trans hf4).trans hf5, c, rfl, hc⟩
  | ok rr st2 =>
  simp only [Res.bind] at hres
  cases hres
  obtain ⟨v2, rfl, h5, hv5⟩ := hr5
  have hd5 : Node w5 d _ tyCond := (hf5.keepN hr4) _ _ _ ntb hd4
  have hb5 : Node w5 b _ tyCond := (hf5.keepN hr4) _ _ _ ntb hb4
  have hl5 := hv4.keep (hf5.keepN hr4)
  obtain ⟨t2, u2, rfl⟩ := hv5.iface
  have hf35 := (hf3.trans hf4).trans hf5
  have hd5' : w5.heap[d]? = some (.cells #[.iface t1 u1, .nilIface, vi (k : Nat)] tyCond (0, 0)) := hd5
  have hb6 : (put w5 d 1 (.iface t2 u2)).heap[b]? = some (.cells #[.nilIface, .nilIface, vi 0] tyCond (0, 0)) := by
   rw [heap_put_ne (by omega)]; exact hb5
  have hd6 := node_put (i := 1) (v := .iface t2 u2) hd5
  have h6 := h5.put_node (i := 1) (v := .iface t2 u2) hd5 ntb hB1
  have hf6 := hf35.put (i := 1) (v := .iface t2 u2) hB1 (.inr (.inr (by omega)))
  have hl6 := hl5.keepS (keepS_put (i := 1) (v := .iface t2 u2) hd5 ntSum)
  have hr6 := hv5.keepS (keepS_put (i := 1) (v := .iface t2 u2) hd5 ntSum)
  simp only [endK, ↓RT, ↓RG, RV, hd5', blkRow3]
  generalize put w5 d 1 (.iface t2 u2) = w6 at *
  have hall2 : [Value.iface t1 u1, .iface t2 u2, vi (k : Nat)].all isOne = true := rfl
  have hrow2 : okRow (some (.cells #[.nilIface, .nilIface, vi 0] tyCond (0, 0))) 0 3 = true := rfl
  simp only [↓RT, ↓RG, RV, hb6, hall2, hrow2, putL]
  have hb6' : Node w6 b _ tyCond := hb6
  have hB2 : B ≤ b := hB
  generalize hw7 : put (put (put w6 b 0 (.iface t1 u1)) b 1 (.iface t2 u2)) b 2 (vi (k : Nat)) = w7
  have hb7 : Node w7 b #[.iface t1 u1, .iface t2 u2, vi (k : Nat)] tyCond := by rw [← hw7]; exact node_put (node_put (node_put hb6'))
  refine rs_agg (n := 3) (by exact ag151) (by rw [show w7.heap[b]? = _ from hb7]; exact blkRow3 _ _ _ _ _) ?_
  refine ⟨?_, _, rfl, ?_, t1, u1, t2, u2, rfl, ?_, ?_⟩
  ·rw [← hw7]
   exact ((hf6.put hB2 (.inr (.inr (by omega)))).put hB2 (.inr (.inr (by omega)))).put hB2 (.inr (.inr (by omega)))
  ·rw [← hw7]
   exact ((h6.put_node hb6' ntb hB2).put_node (node_put hb6') ntb hB2).put_node (node_put (node_put hb6')) ntb hB2
  ·rw [← hw7]
   exact ((hl6.keepS (keepS_put hb6' ntSum)).keepS (keepS_put (node_put hb6') ntSum)).keepS (keepS_put (node_put (node_put hb6')) ntSum)
  ·rw [← hw7]
   exact ((hr6.keepS (keepS_put hb6' ntSum)).keepS (keepS_put (node_put hb6') ntSum)).keepS (keepS_put (node_put (node_put hb6')) ntSum)
 ·refine cl_of (token_ok hr2 hk1.wf.ae hk1.wf.el) ?_
  rintro _ w3 ⟨rfl, rfl⟩
  simp only [endK]
  refine cl_of (relOf_ok hr2.dr.rl) ?_
  rintro _ w3 ⟨rfl, rfl⟩
  have hd2' : w2.heap[d]? = some (.cells #[.iface t1 u1, .nilIface, vi 0] tyCond (0, 0)) := hd2
  simp only [endK, ↓RT, ↓RG, RV, hd2']
  have hd3 := node_put (i := 2) (v := vi (relI (tok src st1))) (w := dr w2) hd2
  have hr3 := hr2.dr.put_node (i := 2) (v := vi (relI (tok src st1))) hd2 ntb hB1
  have hf3 := hf2.dr.put (i := 2) (v := vi (relI (tok src st1))) hB1 (.inr (.inr (by omega)))
  refine condP_split (fun hb => ?_) (fun hb => ?_)
  ·cases hk : relOf (tok src st1) with
   | some k => unfold relI at hb; rw [hk] at hb; simp at hb; omega
   | none =>
     rw [hk] at hres
     cases hres
     refine cl_of (leave_ok (α := Cond) hr3 2 CondAt) ?_
     rintro _ w4 ⟨hfr, c, rfl, hc⟩
     exact ⟨hf3.trans hfr, c, rfl, hc⟩
  ·cases hk : relOf (tok src st1) with
   | none => unfold relI at hb; rw [hk] at hb; simp at hb
   | some k =>
     have e1 : relI (tok src st1) = (k : Nat) := by unfold relI; rw [hk]
     rw [e1] at hd3 hr3 hf3 ⊢
     refine ⟨rfl, k, hk, hd3, ?_, hr3, hf3, ?_⟩
     ·unfold Node; rw [heap_put_ne (by omega)]; exact hb2
     ·exact (hv2.keep (KeepN.refl w2).dr).keepS (keepS_put (w := dr w2) hd2 ntSum)
end Go.Inv
namespace Go.Inv
open Go.Sh
def RowP (S : Nat → Prop) (w : World) (v : Value) (xs : List Value) : Prop := w.ownsRow 0 tyStmt 1 v xs.length xs ∧ ∀ g, v.ownBlock = some g → S g
mutual
def StmtP (S : Nat → Prop) (w : World) (v : Value) : Stmt → Prop
 | .set p k x => ∃ b u, v = .iface tySetP (pt b 0) ∧ S b ∧ Node w b #[vi p, vi k, u] tySet ∧ SumAt w u x
 | .get p k => ∃ b, v = .iface tyGetP (pt b 0) ∧ S b ∧ Node w b #[vi p, vi k] tyGet
 | .assert p c site => ∃ b u1 u2, v = .iface tyAssertP (pt b 0) ∧ S b ∧ Node w b #[vi p, u1, u2, vi c.rel, vi site] tyAssert ∧ SumAt w u1 c.l ∧ SumAt w u2 c.r
 | .ite p c t e he => ∃ b u1 u2 tv ev xs ys, v = .iface tyIfP (pt b 0) ∧ S b ∧ Node w b #[vi p, u1, u2, vi c.rel, tv, ev, .bool he] tyIf ∧ SumAt w u1 c.l ∧ SumAt w u2 c.r ∧
  RowP S w tv xs ∧ StsP S w xs t ∧ RowP S w ev ys ∧ StsP S w ys e
 | .loop p c bd => ∃ b u1 u2 tv xs, v = .iface tyWhileP (pt b 0) ∧ S b ∧ Node w b #[vi p, u1, u2, vi c.rel, tv] tyWhile ∧ SumAt w u1 c.l ∧ SumAt w u2 c.r ∧ RowP S w tv xs ∧ StsP S w xs bd
def StsP (S : Nat → Prop) (w : World) (vs : List Value) : Stmts → Prop
 | .nil => vs = []
 | .cons s r => ∃ v vs', vs = v :: vs' ∧ StmtP S w v s ∧ StsP S w vs' r
end
def From (L : Nat) (c : Nat) : Prop := L ≤ c
abbrev RowAt (L : Nat) := RowP (From L)
abbrev StmtAt (L : Nat) := StmtP (From L)
abbrev StsL (L : Nat) := StsP (From L)
def StmtsAt (L : Nat) (w : World) (v : Value) (l : Stmts) : Prop := ∃ xs, RowAt L w v xs ∧ StsL L w xs l
def KeepP (S : Nat → Prop) (w w' : World) : Prop := ∀ (c : Nat) (cs : Array Value) (t : Nat), S c → NodeTy t → Node w c cs t → Node w' c cs t
abbrev KeepL (L : Nat) := KeepP (From L)
theorem KeepN.keepP {S : Nat → Prop} {w w' : World} (h : KeepN w w') : KeepP S w w' := fun c cs t _ => h c cs t
theorem KeepN.keepL {L : Nat} {w w' : World} (h : KeepN w w') : KeepL L w w' := h.keepP
theorem keepL_put {L b i : Nat} {w : World} {v : Value} (hb : b < L) : KeepL L w (put w b i v) := fun c cs t hc _ hn => by
 have hc : L ≤ c := hc
 unfold Node; rw [heap_put_ne (by omega)]; exact hn
def Wider (S M : Nat → Prop) (w : World) : Prop := ∀ c, S c → c < w.heap.size → M c
theorem RowP.keep' {S M : Nat → Prop} {w w' : World} {v : Value} {xs : List Value} (hM : Wider S M w) (h : KeepP S w w') (g : RowP S w v xs) : RowP M w' v xs := by
 obtain ⟨g, hS⟩ := g
 rcases g.2 with g2 | ⟨nb, cap, c, rfl, h2, h3, h4⟩
 ·exact ⟨⟨g.1, .inl g2⟩, fun k hk => by rw [g2.1] at hk; cases hk⟩
 ·have hs := hS nb rfl
  exact ⟨⟨g.1, .inr ⟨nb, cap, c, rfl, h2, h _ _ _ hs ⟨by decide, by decide, by decide⟩ h3, h4⟩⟩, fun k hk => by cases hk; exact hM _ hs (lt_of_heap h3)⟩
mutual
theorem StmtP.keep' {S M : Nat → Prop} {w w' : World} (hM : Wider S M w) (h : KeepP S w w') (hs : KeepS w w') : ∀ {s : Stmt} {v : Value}, StmtP S w v s → StmtP M w' v s
 | .set _ _ _, _, g => by
   simp only [StmtP] at g ⊢
   obtain ⟨b, u, h1, h2, h3, h4⟩ := g
   exact ⟨b, u, h1, hM _ h2 (lt_of_heap h3), h _ _ _ h2 ⟨by decide, by decide, by decide⟩ h3, h4.keepS hs⟩
 | .get _ _, _, g => by
   simp only [StmtP] at g ⊢
   obtain ⟨b, h1, h2, h3⟩ := g
   exact ⟨b, h1, hM _ h2 (lt_of_heap h3), h _ _ _ h2 ⟨by decide, by decide, by decide⟩ h3⟩
 | .assert _ _ _, _, g => by
   simp only [StmtP] at g ⊢
   obtain ⟨b, u1, u2, h1, h2, h3, h4, h5⟩ := g
   exact ⟨b, u1, u2, h1, hM _ h2 (lt_of_heap h3), h _ _ _ h2 ⟨by decide, by decide, by decide⟩ h3, h4.keepS hs, h5.keepS hs⟩
 | .ite _ _ t e _, _, g => by
   simp only [StmtP] at g ⊢
   obtain ⟨b, u1, u2, tv, ev, xs, ys, h1, h2, h3, h4, h5, h6, h7, h8, h9⟩ := g
   exact ⟨b, u1, u2, tv, ev, xs, ys, h1, hM _ h2 (lt_of_heap h3), h _ _ _ h2 ⟨by decide, by decide, by decide⟩ h3, h4.keepS hs, h5.keepS hs, h6.keep' hM h, StsP.keep' hM h hs h7, h8.keep' hM h, StsP.keep' hM h hs h9⟩
 | .loop _ _ bd, _, g => by
   simp only [StmtP] at g ⊢
   obtain ⟨b, u1, u2, tv, xs, h1, h2, h3, h4, h5, h6, h7⟩ := g
   exact ⟨b, u1, u2, tv, xs, h1, hM _ h2 (lt_of_heap h3), h _ _ _ h2 ⟨by decide, by decide, by decide⟩ h3, h4.keepS hs, h5.keepS hs, h6.keep' hM h, StsP.keep' hM h hs h7⟩
theorem StsP.keep' {S M : Nat → Prop} {w w' : World} (hM : Wider S M w) (h : KeepP S w w') (hs : KeepS w w') : ∀ {l : Stmts} {vs : List Value}, StsP S w vs l → StsP M w' vs l
 | .nil, _, g => by simp only [StsP] at g ⊢; exact g
 | .cons s r, _, g => by
   simp only [StsP] at g ⊢
   obtain ⟨v, vs', h1, h2, h3⟩ := g
   exact ⟨v, vs', h1, StmtP.keep' hM h hs h2, StsP.keep' hM h hs h3⟩
end
theorem wider_from {L M : Nat} {w : World} (h : M ≤ L) : Wider (From L) (From M) w := fun _ hc _ => Nat.le_trans h hc
theorem RowP.keep {L M : Nat} {w w' : World} {v : Value} {xs : List Value} (g : RowAt L w v xs) (hM : M ≤ L) (h : KeepL L w w') : RowAt M w' v xs := g.keep' (wider_from hM) h
theorem StsP.keep {L M : Nat} {w w' : World} {l : Stmts} {vs : List Value} (g : StsL L w vs l) (hM : M ≤ L) (h : KeepL L w w') (hs : KeepS w w') : StsL M w' vs l := g.keep' (wider_from hM) h hs
theorem StmtsAt.keep {L M : Nat} {w w' : World} (hM : M ≤ L) (h : KeepL L w w') (hs : KeepS w w') {l : Stmts} {v : Value} (g : StmtsAt L w v l) : StmtsAt M w' v l := by
 obtain ⟨xs, g1, g2⟩ := g
 exact ⟨xs, g1.keep hM h, g2.keep hM h hs⟩
theorem StmtP.iface {S : Nat → Prop} {w : World} {s : Stmt} {v : Value} (g : StmtP S w v s) : ∃ t u, v = .iface t u := by
 cases s <;> simp only [StmtP] at g
 ·obtain ⟨b, u, h1, _⟩ := g; exact ⟨_, _, h1⟩
 ·obtain ⟨b, h1, _⟩ := g; exact ⟨_, _, h1⟩
 ·obtain ⟨b, u, v, h1, _⟩ := g; exact ⟨_, _, h1⟩
 ·obtain ⟨b, u, v, _, _, _, _, h1, _⟩ := g; exact ⟨_, _, h1⟩
 ·obtain ⟨b, u, v, _, _, h1, _⟩ := g; exact ⟨_, _, h1⟩
theorem RowP.slice {S : Nat → Prop} {w : World} {v : Value} {xs : List Value} (g : RowP S w v xs) : ∃ a n c, v = .slice a n c := by
 rcases g.1.2 with ⟨rfl, _⟩ | ⟨nb, cap, c, rfl, _⟩ <;> exact ⟨_, _, _, rfl⟩
theorem row_nil (S : Nat → Prop) (w : World) : RowP S w (.slice none 0 0) [] := ⟨⟨rfl, .inl ⟨rfl, rfl⟩⟩, fun _ h => by cases h⟩
end Go.Inv
namespace Go.Inv
open Go.Sh
theorem ok_statements : okFn pr n_rd_statements = true := by kernel_rfl
def StsOk (src : Bytes) (B r p : Nat) (rd : RS → Option (Res Stmts)) : Prop := ∀ w st res, RdAt src B r p w st → Wf src st → st.op ≤ 12 → rd st = some res →
 Calls pr n_rd_statements #[pt r 0] w (Rd src B r p w (StmtsAt w.heap.size) res)
def RdKept (src : Bytes) (rd : RS → Option (Res Stmts)) : Prop := ∀ st st' l, Wf src st → rd st = some (.ok l st') → Kept src st st'
theorem block_ok {src : Bytes} {B r p : Nat} {rd : RS → Option (Res Stmts)} (hsm : src.length ≤ 400) (hst : StsOk src B r p rd) (hrk : RdKept src rd) {w : World} {st : RS} {res : Res Stmts}
 (h : RdAt src B r p w st) (hw : Wf src st) (hop : st.op ≤ 12) (hres : blockS src rd st = some res) :
 Calls pr n_rd_block #[pt r 0] w (Rd src B r p w (StmtsAt w.heap.size) res) := by
 refine sh_rd_block_ok _ _ _ ?_
 unfold sh_rd_block
 simp only [↓RT, ↓RG, RV]
 unfold blockS at hres
 have hval : ∀ w1 w2 v a, KeepN w1 w2 → StmtsAt w.heap.size w1 v a → StmtsAt w.heap.size w2 v a := fun _ _ _ _ hk g => g.keep (Nat.le_refl _) hk.keepL hk.keepS
 by_cases ht : tok src st = [123]
 ·rw [if_pos (by simpa using ht)] at hres
  by_cases ho : st.op = 12
  ·rw [if_pos (by simpa using ho)] at hres
   cases hres
   refine cl_of (withinSts_ok (val := StmtsAt w.heap.size) (t := [123]) (f := n_rd_statements) (x := #[pt r 0]) (y := #[]) h hw hsm hop ok_statements hval (inn := .err 0 0) (fun _ hh => by omega) (fun _ _ _ hh => by cases hh)) ?_
   rintro e w2 ⟨hfr, hr2⟩
   unfold wthS at hr2
   rw [if_pos ht, if_pos ho] at hr2
   obtain ⟨c, rfl, hc⟩ := hr2; exact ⟨hfr, c, rfl, hc⟩
  ·rw [if_neg (by simpa using ho)] at hres
   cases hx : rd { nextS src st with op := st.op + 1 } with
   | none => rw [hx] at hres; cases hres
   | some q =>
   rw [hx] at hres
   refine cl_of (withinSts_ok (val := StmtsAt w.heap.size) (t := [123]) (f := n_rd_statements) (x := #[pt r 0]) (y := #[]) h hw hsm hop ok_statements hval (inn := q) ?_ ?_) ?_
   ·intro _ ho w1 hfr hrd
    refine (hst _ _ _ hrd (hw.next.op _) (by show st.op + 1 ≤ 12; omega) hx).mono ?_
    rintro e w2 ⟨hf2, hr2⟩
    refine ⟨hf2, ?_⟩
    cases q with
    | err a x => exact hr2
    | ok l st' =>
      obtain ⟨v, rfl, hrd2, hv⟩ := hr2
      exact ⟨v, rfl, hrd2, hv.keep hfr.size (KeepN.refl _).keepL (KeepN.refl _).keepS⟩
   ·intro a st' _ hi
    subst hi
    exact (hrk _ _ _ (hw.next.op _) hx).op
   ·rintro e w2 ⟨hfr, hr2⟩
    unfold wthS at hr2
    rw [if_pos ht, if_neg ho] at hr2
    cases q with
    | err a x =>
      cases hres
      obtain ⟨c, rfl, hc⟩ := hr2; exact ⟨hfr, c, rfl, hc⟩
    | ok l st' =>
      obtain ⟨v, rfl, hrd, hv⟩ := hr2
      have hk5 := hrk _ _ _ (hw.next.op _) hx
      simp only [endK]
      simp only [Res.bind] at hres
      cases hts : takeS src [125] { st' with op := st'.op - 1 } with
      | none => rw [hts] at hres; cases hres
      | some q2 =>
      rw [hts] at hres
      refine cl_of (take_ok hrd (hk5.wf.op _) hsm hts) ?_
      rintro e w3 ⟨hfr3, hr3⟩
      cases q2 with
      | err a x => cases hres; obtain ⟨c, rfl, hc⟩ := hr3; exact ⟨hfr.trans hfr3, c, rfl, hc⟩
      | ok u st2 =>
        cases hres
        obtain ⟨_, rfl, hrd3, rfl⟩ := hr3
        have hk := hfr3.keepN hrd
        exact ⟨hfr.trans hfr3, v, rfl, hrd3, hv.keep (Nat.le_refl _) hk.keepL hk.keepS⟩
 ·rw [if_neg (by simpa using ht)] at hres
  cases hres
  refine cl_of (withinSts_ok (val := StmtsAt w.heap.size) (t := [123]) (f := n_rd_statements) (x := #[pt r 0]) (y := #[]) h hw hsm hop ok_statements hval (inn := .err 0 0) (fun hh => absurd hh ht) (fun _ _ hh => absurd hh ht)) ?_
  rintro e w2 ⟨hfr, hr2⟩
  unfold wthS at hr2
  rw [if_neg ht] at hr2
  obtain ⟨c, rfl, hc⟩ := hr2; exact ⟨hfr, c, rfl, hc⟩
end Go.Inv
namespace Go.Inv
open Go.Sh
theorem nt_Point : NodeTy tyPoint := ⟨by decide, by decide, by decide⟩
theorem nt_Get : NodeTy tyGet := ⟨by decide, by decide, by decide⟩
theorem nt_ReaderP : NodeTy tyReaderP := ⟨by decide, by decide, by decide⟩
theorem blkRow1 (a : Value) (t : Nat) (f : Nat × Nat) : blkRow (some (.cells #[a] t f)) 0 1 = some (.agg #[a]) := rfl
theorem kind1_ok {src : Bytes} {B r p b : Nat} {w : World} {st : RS} {pn : Nat} {res : Res Stmt} (hsm : src.length ≤ 400) (h : RdAt src B r p w st) (hw : Wf src st)
 (hb : Node w b #[pt r 0] tyReaderP) (hres : Res.bind (nameS src st) (fun v st2 => Res.bind (takeS src [59] st2) fun _ st3 => some (.ok (.get pn v) st3)) = some res) :
 Calls pr n_rd_kinds_1 #[.agg #[vi pn], pt b 0] w (Rd src B r p w (StmtAt w.heap.size) res) := by
 refine sh_rd_kinds_1_ok _ _ _ _ ?_
 unfold sh_rd_kinds_1
 have hB := h.B_le
 simp only [↓RT, ↓RG, RV, cells_agg]
 generalize hw0 : w.alloc (.cells #[vi (pn : Nat)] tyPoint) = w0
 have hd0 : w0.heap[w.heap.size]? = some (.cells #[vi (pn : Nat)] tyPoint (0, 0)) := by rw [← hw0]; exact heap_alloc_self _
 have h0 : RdAt src B r p w0 st := by rw [← hw0]; exact h.alloc _
 have hf0 : Fr B r p w w0 := by rw [← hw0]; exact (Fr.refl _ _ _ _).alloc (by omega) _
 have hb0 : w0.heap[b]? = some (.cells #[pt r 0] tyReaderP (0, 0)) := (hf0.keepN h) _ _ _ nt_ReaderP hb
 simp only [hd0, hb0, blkRow1, ↓RT, ↓RG, RV]
 cases hx : nameS src st with
 | none => rw [hx] at hres; cases hres
 | some q =>
 rw [hx] at hres
 refine cl_of (name_ok h0.dr hw hsm hx) ?_
 rintro e w2 ⟨hf2, hr2⟩
 cases q with
 | err a x => cases hres; obtain ⟨c, rfl, hc⟩ := hr2; exact ⟨hf0.dr.trans hf2, c, rfl, hc⟩
 | ok v st2 =>
 obtain ⟨_, rfl, h2, rfl⟩ := hr2
 have hk2 := nameS_kept hw hx
 have hd2 : w2.heap[w.heap.size]? = some (.cells #[vi (pn : Nat)] tyPoint (0, 0)) := (hf2.keepN h0.dr) _ _ _ nt_Point hd0
 have hb2 : w2.heap[b]? = some (.cells #[pt r 0] tyReaderP (0, 0)) := (hf2.keepN h0.dr) _ _ _ nt_ReaderP hb0
 have hlb := lt_of_heap hb2
 simp only [endK, hd2, hb2, blkRow1, ↓RT, ↓RG, RV, ↓oz_build (bd_Get _ _), cells_agg]
 have hf3 : Fr B r p w (w2.alloc (.cells #[vi (pn : Nat), vi (v : Nat)] tyGet)) := (hf0.dr.trans hf2).alloc (by omega) _
 have h3 := h2.alloc (.cells #[vi (pn : Nat), vi (v : Nat)] tyGet)
 have hn3 : Node (w2.alloc (.cells #[vi (pn : Nat), vi (v : Nat)] tyGet)) w2.heap.size #[vi (pn : Nat), vi (v : Nat)] tyGet := heap_alloc_self _
 have hb3 : (w2.alloc (.cells #[vi (pn : Nat), vi (v : Nat)] tyGet)).heap[b]? = some (.cells #[pt r 0] tyReaderP (0, 0)) := by rw [heap_alloc_ne (by omega)]; exact hb2
 simp only [hb3, ↓RT, ↓RG, RV]
 simp only [Res.bind] at hres
 cases hts : takeS src [59] st2 with
 | none => rw [hts] at hres; cases hres
 | some q2 =>
 rw [hts] at hres
 refine cl_of (take_ok h3 hk2.wf hsm hts) ?_
 rintro e w4 ⟨hf4, hr4⟩
 cases q2 with
 | err a x => cases hres; obtain ⟨c, rfl, hc⟩ := hr4; exact ⟨hf3.trans hf4, c, rfl, hc⟩
 | ok u st3 =>
 cases hres
 obtain ⟨_, rfl, h4, rfl⟩ := hr4
 simp only [endK, ↓RT, ↓RG, RV]
 refine ⟨hf3.trans hf4, _, rfl, h4, ?_⟩
 simp only [StmtP]
 exact ⟨w2.heap.size, rfl, (hf0.dr.trans hf2).size, (hf4.keepN h3) _ _ _ nt_Get hn3⟩
end Go.Inv
namespace Go.Inv
open Go.Sh
theorem nt_While : NodeTy tyWhile := ⟨by decide, by decide, by decide⟩
theorem ns_While : ¬ SumTy tyWhile := by rintro (h | h | h | h) <;> exact absurd h (by decide)
theorem kind4_ok {src : Bytes} {B r p b n : Nat} {rd : RS → Option (Res Stmts)} {w : World} {st : RS} {pn : Nat} {res : Res Stmt} (hsm : src.length ≤ 400) (hst : StsOk src B r p rd) (hrk : RdKept src rd)
 (h : RdAt src B r p w st) (hw : Wf src st) (hop : st.op ≤ 12)
 (hb : Node w b #[pt r 0] tyReaderP) (hres : Res.bind (condS src n st) (fun c st2 => Res.bind (blockS src rd st2) fun bd st3 => some (.ok (.loop pn c bd) st3)) = some res) :
 Calls pr n_rd_kinds_4 #[.agg #[vi pn], pt b 0] w (Rd src B r p w (StmtAt w.heap.size) res) := by
 refine sh_rd_kinds_4_ok _ _ _ _ ?_
 unfold sh_rd_kinds_4
 have hB := h.B_le
 simp only [↓RT, ↓RG, RV, cells_agg]
 generalize hw0 : w.alloc (.cells #[vi (pn : Nat)] tyPoint) = w0
 have hd0 : w0.heap[w.heap.size]? = some (.cells #[vi (pn : Nat)] tyPoint (0, 0)) := by rw [← hw0]; exact heap_alloc_self _
 have h0 : RdAt src B r p w0 st := by rw [← hw0]; exact h.alloc _
 have hf0 : Fr B r p w w0 := by rw [← hw0]; exact (Fr.refl _ _ _ _).alloc (by omega) _
 have hb0 : w0.heap[b]? = some (.cells #[pt r 0] tyReaderP (0, 0)) := (hf0.keepN h) _ _ _ nt_ReaderP hb
 simp only [hd0, hb0, blkRow1, ↓RT, ↓RG, RV]
 cases hx : condS src n st with
 | none => rw [hx] at hres; cases hres
 | some q =>
 rw [hx] at hres
 refine cl_of (cond_ok hsm h0.dr hw hop hx) ?_
 rintro e w2 ⟨hf2, hr2⟩
 cases q with
 | err a x => cases hres; obtain ⟨c, rfl, hc⟩ := hr2; exact ⟨hf0.dr.trans hf2, c, rfl, hc⟩
 | ok c st2 =>
 obtain ⟨_, rfl, h2, t1, u1, t2, u2, rfl, hl2, hrr2⟩ := hr2
 have hk2 := condS_kept hw hx
 have hd2 : w2.heap[w.heap.size]? = some (.cells #[vi (pn : Nat)] tyPoint (0, 0)) := (hf2.keepN h0.dr) _ _ _ nt_Point hd0
 have hb2 : w2.heap[b]? = some (.cells #[pt r 0] tyReaderP (0, 0)) := (hf2.keepN h0.dr) _ _ _ nt_ReaderP hb0
 have hlb := lt_of_heap hb2
 simp only [endK, hd2, hb2, blkRow1, ↓RT, ↓RG, RV, ↓oz_build (bd_While _ _ _ _ _ _), cells_agg]
 have hs2 := (hf0.dr.trans hf2).size
 generalize hcs : #[vi (pn : Nat), Value.iface t1 u1, .iface t2 u2, vi (c.rel : Nat), .slice none 0 0] = cs
 have hf3 : Fr B r p w (w2.alloc (.cells cs tyWhile)) := (hf0.dr.trans hf2).alloc (by omega) _
 have h3 := h2.alloc (.cells cs tyWhile)
 have hn3 : Node (w2.alloc (.cells cs tyWhile)) w2.heap.size cs tyWhile := heap_alloc_self _
 have hb3 : (w2.alloc (.cells cs tyWhile)).heap[b]? = some (.cells #[pt r 0] tyReaderP (0, 0)) := by rw [heap_alloc_ne (by omega)]; exact hb2
 have hl3 := hl2.keep ((KeepN.refl _).alloc (.cells cs tyWhile))
 have hrr3 := hrr2.keep ((KeepN.refl _).alloc (.cells cs tyWhile))
 have hsz3 : (w2.alloc (.cells cs tyWhile)).heap.size = w2.heap.size + 1 := size_alloc _
 generalize w2.alloc (.cells cs tyWhile) = w3 at *
 generalize hd : w2.heap.size = d at *
 simp only [hb3, ↓RT, ↓RG, RV]
 simp only [Res.bind] at hres
 cases hbs : blockS src rd st2 with
 | none => rw [hbs] at hres; cases hres
 | some q2 =>
 rw [hbs] at hres
 refine cl_of (block_ok hsm hst hrk h3 hk2.wf (by rw [hk2.op]; exact hop) hbs) ?_
 rintro e w4 ⟨hf4, hr4⟩
 cases q2 with
 | err a x => cases hres; obtain ⟨c, rfl, hc⟩ := hr4; exact ⟨hf3.trans hf4, c, rfl, hc⟩
 | ok bd st3 =>
 cases hres
 obtain ⟨bv, rfl, h4, hbd⟩ := hr4
 have hn4 : Node w4 d cs tyWhile := (hf4.keepN h3) _ _ _ nt_While hn3
 have hn4' : w4.heap[d]? = some (.cells cs tyWhile (0, 0)) := hn4
 obtain ⟨xs, hrow, hxs⟩ := hbd
 have h1v : isOne bv = true := by obtain ⟨_, _, _, rfl⟩ := hrow.slice; rfl
 have hcz : 4 < cs.size := by rw [← hcs]; simp
 have hdz : decide (4 < cs.size) = true := by simpa using hcz
 simp only [endK, hn4', h1v, hdz, ↓RT, ↓RG, RV]
 have hBd : B ≤ d := by omega
 have hkL : KeepL w3.heap.size w4 (put w4 d 4 bv) := keepL_put (by omega)
 have hkS : KeepS w4 (put w4 d 4 bv) := keepS_put hn4 ns_While
 have hk34 := hf4.keepN h3
 refine ⟨(hf3.trans hf4).put hBd (.inr (.inr hs2)), _, rfl, h4.put_node hn4 nt_While hBd, ?_⟩
 simp only [StmtP]
 have hle : w.heap.size ≤ w3.heap.size := hf3.size
 refine ⟨d, _, _, bv, xs, rfl, hs2, ?_, (hl3.keep hk34).keepS hkS, (hrr3.keep hk34).keepS hkS, hrow.keep hle hkL, hxs.keep hle hkL hkS⟩
 have := node_put (i := 4) (v := bv) hn4
 rw [← hcs] at this
 exact this
end Go.Inv
