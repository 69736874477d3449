/- A part of the proofs of the cards of this seat: whatever the input, each law returns true and leaves its arguments as they were. No condition. -/
import Derived.Test.YtknfapnlpkmcjaaGreatDoorPE
import Derived.Test.YtknfapnlpkmcjaaGreatDoorPD
import Derived.Shelf.LaysM
import Derived.Shelf.Strings.Repeat
import Derived.Shelf.Strconv.Itoa3
import Derived.Test.YtknfapnlpkmcjaaGreatDoorProg
import Derived.Test.YtknfapnlpkmcjaaGreatDoorPC
import Derived.Test.YtknfapnlpkmcjaaGreatDoorPA
set_option linter.all false
/- Second readings of bodies. (Written by a program of ours; the kernel checks each.) -/
set_option maxRecDepth 100000
set_option linter.unusedVariables false
namespace Go.Inv
open Go.Sh
/- invariants/text.Read$1 -/
def sh_text_Read_1 (K : Value → World → Prop) (E : PanicK) (a0 a1 : Value) (w : World) : Prop :=
 o pr E w (sB .recover [] 20 []) fun t5 w =>
 o pr E w (sBinC .neq 20 t5 (Value.nilIface) 20) fun t7 w =>
 condP t7 (∃ j1 : List Value → World → Prop, (∀ (e1 : Nat → Value) w, j1 [e1 3] w →
 o pr E w (sIface 74 (e1 3)) fun t17 w =>
 o pr E w (sStore 70 a0 (Value.pointer none)) fun _ w =>
 o pr E w (sStore 30 a1 t17) fun _ w =>
 K (.tuple #[]) w) ∧
 o pr E w (sAssert t5 20 74 true) fun t10 w =>
 o pr E w (sExt t10 0) fun t11 w =>
 o pr E w (sExt t10 1) fun t12 w =>
 o pr E w (sUn .not 4 t12) fun t14 w =>
 condP t14 (o pr E w (sPanic t5) fun _ w =>
 j1 [t11] w)
  (j1 [t11] w))
  (K (.tuple #[]) w)
def lv_text_Read_1 : Lives := [(1, [0, 1, 2]), (2, [0, 1, 2, 7]), (3, [0, 1, 2, 3, 4]), (4, [0, 1, 2, 3, 14]), (5, [0, 1, 3])]
theorem sh_text_Read_1_ok (a0 a1 : Value) (w : World) (R : Ending → World → Prop)
    (h : sh_text_Read_1 (fun v w => R (.returned v) w) (fun c w => R (.panicked c) w) a0 a1 w) : Calls pr n_text_Read_1 #[a0, a1] w R :=
  calls_of_W (A := lv_text_Read_1) enters mixed Go.Proofs.Tryz.func44 (by kernel_rfl) (by kernel_rfl) (by kernel_rfl)
    (Eq.mp (by kernel_rfl) h)

/- (*invariants/text.reader).next -/
def sh_text_reader_next (K : Value → World → Prop) (E : PanicK) (a0 : Value) (w : World) : Prop :=
 o pr E w (sBox 118 a0) fun t1 w =>
 o pr E w (sLoad 118 t1) fun t5 w =>
 o pr E w (sNil t5) fun t6 w =>
 o pr E w (sFA 123 t6 2) fun t7 w =>
 o pr E w (sLoad 3 t7) fun t8 w =>
 ∃ (I1 : List Value → World → Prop) (m1 : List Value → World → Nat), I1 [t8] w ∧
 ∀ (e1 : Nat → Value) w1, I1 [e1 2] w1 → (fun w =>
 (fun (k2 : Value → World → Prop) =>
 o pr E w (sLoad 118 t1) fun t10 w =>
 o pr E w (sNil t10) fun t11 w =>
 o pr E w (sFA 123 t11 0) fun t12 w =>
 o pr E w (sLoad 9 t12) fun t13 w =>
 o pr E w (sB .len [9] 3 [t13]) fun t14 w =>
 o pr E w (sBin .lss 3 (e1 2) t14 3) fun t15 w =>
 condG t15 true (o pr E w (sLoad 118 t1) fun t17 w =>
 o pr E w (sNil t17) fun t18 w =>
 o pr E w (sFA 123 t18 0) fun t19 w =>
 o pr E w (sLoad 9 t19) fun t20 w =>
 o pr E w (sIdx 9 t20 (e1 2)) fun t22 w =>
 o pr E w (sBinC .eql 5 t22 (Value.int IntKind.u8 32) 5) fun t23 w =>
 condG t23 false (o pr E w (sLoad 118 t1) fun t25 w =>
 o pr E w (sNil t25) fun t26 w =>
 o pr E w (sFA 123 t26 0) fun t27 w =>
 o pr E w (sLoad 9 t27) fun t28 w =>
 o pr E w (sIdx 9 t28 (e1 2)) fun t30 w =>
 o pr E w (sBinC .eql 5 t30 (Value.int IntKind.u8 10) 5) fun t31 w =>
 o pr E w (sPick t23 (Value.bool true) t31) fun t32 w =>
 o pr E w (sPick t15 t32 (Value.bool false)) fun t33_1 w =>
 k2 t33_1 w)
  (o pr E w (sPick t23 (Value.bool true) undef) fun t32_1 w =>
 o pr E w (sPick t15 t32_1 (Value.bool false)) fun t33_2 w =>
 k2 t33_2 w))
  (condG undef false (o pr E w (sLoad 118 t1) fun t25_1 w =>
 o pr E w (sNil t25_1) fun t26_1 w =>
 o pr E w (sFA 123 t26_1 0) fun t27_1 w =>
 o pr E w (sLoad 9 t27_1) fun t28_1 w =>
 o pr E w (sIdx 9 t28_1 (e1 2)) fun t30_1 w =>
 o pr E w (sBinC .eql 5 t30_1 (Value.int IntKind.u8 10) 5) fun _ w =>
 o pr E w (sPick t15 undef (Value.bool false)) fun t33_3 w =>
 k2 t33_3 w)
  (o pr E w (sPick t15 undef (Value.bool false)) fun t33_4 w =>
 k2 t33_4 w)))
 (fun t33 w =>
 condP t33 (o pr E w (sBinC .add 3 (e1 2) (Value.int IntKind.i64 1) 3) fun t35 w =>
 I1 [t35] w ∧ m1 [t35] w < m1 [e1 2] w1)
  ((fun w =>
 oa pr w (sLoad 118 t1) fun t36 =>
 oa pr w (sLoad 118 t1) fun t37 =>
 oz pr (sNil t36) fun t40 =>
 oz pr (sFA 123 t40 1) fun t41 =>
 o pr E w (sStore 3 t41 (e1 2)) fun _ w =>
 rk pr w (sLoad 118 t1) t37 ∧
 oz pr (sNil t37) fun t42 =>
 oz pr (sFA 123 t42 2) fun t43 =>
 o pr E w (sStore 3 t43 (e1 2)) fun _ w =>
 o pr E w (sLoad 118 t1) fun t45 w =>
 o pr E w (sNil t45) fun t46 w =>
 o pr E w (sFA 123 t46 0) fun t47 w =>
 o pr E w (sLoad 9 t47) fun t48 w =>
 o pr E w (sB .len [9] 3 [t48]) fun t49 w =>
 o pr E w (sBin .eql 3 (e1 2) t49 3) fun t50 w =>
 condP t50 (K (.tuple #[]) w)
  (o pr E w (sFunc (.func n_text_reader_next_1) [] [t1]) fun t51 w =>
 o pr E w (sLoad 118 t1) fun t52 w =>
 o pr E w (sNil t52) fun t53 w =>
 o pr E w (sFA 123 t53 0) fun t54 w =>
 o pr E w (sLoad 9 t54) fun t55 w =>
 o pr E w (sIdx 9 t55 (e1 2)) fun t57 w =>
 cl pr E w n_text_letter #[t57] fun t74 w =>
 condP t74 (o pr E w (sCall t51 [(Fu n_text_letter)]) fun _ w =>
 K (.tuple #[]) w)
  (cl pr E w n_text_digit #[t57] fun t79 w =>
 condP t79 (o pr E w (sCall t51 [(Fu n_text_digit)]) fun _ w =>
 K (.tuple #[]) w)
  ((fun w =>
 oa pr w (sLoad 118 t1) fun t58 =>
 oz pr (sNil t58) fun t59 =>
 oz pr (sFA 123 t59 2) fun t60 =>
 oa pr w (sLoad 3 t60) fun t61 =>
 oa pr w (sLoad 118 t1) fun t62 =>
 oz pr (sNil t62) fun t63 =>
 oz pr (sFA 123 t63 0) fun t64 =>
 oa pr w (sLoad 9 t64) fun t65 =>
 oz pr (sSlice 9 t65 (some (e1 2)) none none) fun t67 =>
 cl pr E w n_text_sign #[t67] fun t68 w =>
 rk pr w (sLoad 3 t60) t61 ∧
 rk pr w (sLoad 118 t1) t58 ∧
 oz pr (sBin .add 3 t61 t68 3) fun t69 =>
 oz pr (sNil t58) fun t70 =>
 oz pr (sFA 123 t70 2) fun t71 =>
 o pr E w (sStore 3 t71 t69) fun _ w =>
 K (.tuple #[]) w) (dr w))))) (dr w)))) w1
def lv_text_reader_next : Lives := [(1, [1]), (2, [1, 2]), (3, [1, 2]), (4, [1, 2]), (5, [1, 2]), (6, [1, 2]), (7, [1, 2, 3]), (9, [1, 2, 3, 4]), (10, [1, 2, 3, 4, 72]), (12, [1, 2, 3, 77])]
theorem sh_text_reader_next_ok (a0 : Value) (w : World) (R : Ending → World → Prop)
    (h : sh_text_reader_next (fun v w => R (.returned v) w) (fun c w => R (.panicked c) w) a0 w) : Calls pr n_text_reader_next #[a0] w R :=
  calls_of_W (A := lv_text_reader_next) enters mixed Go.Proofs.Tryz.func45 (by kernel_rfl) (by kernel_rfl) (by kernel_rfl)
    (Eq.mp (by kernel_rfl) h)

/- (*invariants/text.reader).statements -/
def sh_text_reader_statements (K : Value → World → Prop) (E : PanicK) (a0 : Value) (w : World) : Prop :=
 cl pr E w n_text_reader_kinds #[a0] fun t10 w =>
 ∃ (I1 : List Value → World → Prop) (m1 : List Value → World → Nat), I1 [(Value.slice none 0 0)] w ∧
 ∀ (e1 : Nat → Value) w1, I1 [e1 4] w1 → (fun w =>
 cl pr E w n_text_reader_token #[a0] fun t14 w =>
 o pr E w (sLook 188 t10 t14 true) fun t15 w =>
 o pr E w (sExt t15 0) fun t16 w =>
 o pr E w (sExt t15 1) fun t17 w =>
 o pr E w (sNil a0) fun t19 w =>
 o pr E w (sFA 123 t19 4) fun t20 w =>
 o pr E w (sLoad 70 t20) fun t21 w =>
 o pr E w (sNil t21) fun t22 w =>
 o pr E w (sFA 121 t22 1) fun t23 w =>
 o pr E w (sLoad 3 t23) fun t24 w =>
 o pr E w (sBuild 193 [(0, t24)]) fun t25 w =>
 o pr E w (sAlloc 193) fun t7 w =>
 o pr E w (sStore 193 t7 t25) fun _ w =>
 condP t17 (o pr E w (sNil a0) fun t30 w =>
 o pr E w (sFA 123 t30 4) fun t31 w =>
 o pr E w (sLoad 70 t31) fun t32 w =>
 o pr E w (sNil t32) fun t33 w =>
 o pr E w (sFA 121 t33 1) fun t34 w =>
 o pr E w (sLoad 3 t34) fun t35 w =>
 o pr E w (sBinC .add 3 t35 (Value.int IntKind.i64 1) 3) fun t36 w =>
 o pr E w (sNil t32) fun t37 w =>
 o pr E w (sFA 121 t37 1) fun t38 w =>
 o pr E w (sStore 3 t38 t36) fun _ w =>
 cl pr E w n_text_reader_next #[a0] fun _ w =>
 o pr E w (sLoad 193 t7) fun t43 w =>
 o pr E w (sCall t16 [t43]) fun t44 w =>
 o pr E w (sBuildSlice 119 1 [(0, t44)]) fun t45 w =>
 o pr E w (sB .append [119, 119] 119 [(e1 4), t45]) fun t46 w =>
 I1 [t46] w ∧ m1 [t46] w < m1 [e1 4] w1)
  (cl pr E w n_text_reader_variable #[a0] fun t49 w =>
 o pr E w (sBinC .geq 3 t49 (Value.int IntKind.i64 0) 3) fun t50 w =>
 condP t50 (o pr E w (sNil a0) fun t52 w =>
 o pr E w (sFA 123 t52 4) fun t53 w =>
 o pr E w (sLoad 70 t53) fun t54 w =>
 o pr E w (sNil t54) fun t55 w =>
 o pr E w (sFA 121 t55 1) fun t56 w =>
 o pr E w (sLoad 3 t56) fun t57 w =>
 o pr E w (sBinC .add 3 t57 (Value.int IntKind.i64 1) 3) fun t58 w =>
 o pr E w (sNil t54) fun t59 w =>
 o pr E w (sFA 121 t59 1) fun t60 w =>
 o pr E w (sStore 3 t60 t58) fun _ w =>
 (fun w =>
 oa pr w (sLoad 193 t7) fun t61 =>
 cl pr E w n_text_reader_name #[a0] fun t63 w =>
 rk pr w (sLoad 193 t7) t61 ∧
 oz pr (sBuild 200 [(0, t61), (1, t63)]) fun t64 =>
 o pr E w (sBox 200 t64) fun t65 w =>
 cl pr E w n_text_reader_take #[a0, (Value.string (S [61]))] fun _ w =>
 cl pr E w n_text_reader_sum #[a0] fun t70 w =>
 o pr E w (sNil t65) fun t71 w =>
 o pr E w (sFA 200 t71 2) fun t72 w =>
 o pr E w (sStore 198 t72 t70) fun _ w =>
 cl pr E w n_text_reader_take #[a0, (Value.string (S [59]))] fun _ w =>
 o pr E w (sIface 196 t65) fun t77 w =>
 o pr E w (sBuildSlice 119 1 [(0, t77)]) fun t78 w =>
 o pr E w (sB .append [119, 119] 119 [(e1 4), t78]) fun t79 w =>
 I1 [t79] w ∧ m1 [t79] w < m1 [e1 4] w1) (dr w))
  (K (e1 4) w))) w1
def lv_text_reader_statements : Lives := [(1, [0]), (2, [0, 3]), (3, [0, 3, 4]), (4, [0, 3, 4, 5, 6]), (6, [0, 3, 4, 5, 6, 7]), (7, [0, 3, 4, 5, 7, 27]), (8, [0, 3, 4, 5, 7]), (9, [0, 3, 4, 5, 7]), (11, [0, 3, 4, 7, 47]), (12, [0, 3, 4, 7]), (13, [0, 3, 4, 8]), (14, [0, 3, 4, 8]), (15, [0, 3, 4, 8]), (16, [0, 3, 4, 8])]
theorem sh_text_reader_statements_ok (a0 : Value) (w : World) (R : Ending → World → Prop)
    (h : sh_text_reader_statements (fun v w => R (.returned v) w) (fun c w => R (.panicked c) w) a0 w) : Calls pr n_text_reader_statements #[a0] w R :=
  calls_of_W (A := lv_text_reader_statements) enters mixed Go.Proofs.Tryz.func46 (by kernel_rfl) (by kernel_rfl) (by kernel_rfl)
    (Eq.mp (by kernel_rfl) h)

/- (*invariants/text.reader).leave -/
def sh_text_reader_leave (K : Value → World → Prop) (E : PanicK) (a0 a1 : Value) (w : World) : Prop :=
 o pr E w (sNil a0) fun t5 w =>
 o pr E w (sFA 123 t5 1) fun t6 w =>
 o pr E w (sLoad 3 t6) fun t7 w =>
 o pr E w (sBuild 78 [(0, t7)]) fun t8 w =>
 o pr E w (sBuild 80 [(0, t8), (1, a1)]) fun t10 w =>
 o pr E w (sBox 80 t10) fun t11 w =>
 o pr E w (sIface 74 t11) fun t12 w =>
 o pr E w (sPanic t12) fun _ w =>
 K (.tuple #[]) w
def lv_text_reader_leave : Lives := []
theorem sh_text_reader_leave_ok (a0 a1 : Value) (w : World) (R : Ending → World → Prop)
    (h : sh_text_reader_leave (fun v w => R (.returned v) w) (fun c w => R (.panicked c) w) a0 a1 w) : Calls pr n_text_reader_leave #[a0, a1] w R :=
  calls_of_W (A := lv_text_reader_leave) enters mixed Go.Proofs.Tryz.func47 (by kernel_rfl) (by kernel_rfl) (by kernel_rfl)
    (Eq.mp (by kernel_rfl) h)

/- (*invariants/text.reader).next$1 -/
def sh_text_reader_next_1 (K : Value → World → Prop) (E : PanicK) (a0 a1 : Value) (w : World) : Prop :=
 ∃ (I1 : List Value → World → Prop) (m1 : List Value → World → Nat), I1 [] w ∧
 ∀ (e1 : Nat → Value) w1, I1 [] w1 → (fun w =>
 (fun w =>
 (fun (k0 : Value → World → Prop) =>
 oa pr w (sLoad 118 a1) fun t3 =>
 oz pr (sNil t3) fun t4 =>
 oz pr (sFA 123 t4 2) fun t5 =>
 oa pr w (sLoad 3 t5) fun t6 =>
 oa pr w (sLoad 118 a1) fun t7 =>
 oz pr (sNil t7) fun t8 =>
 oz pr (sFA 123 t8 0) fun t9 =>
 oa pr w (sLoad 9 t9) fun t10 =>
 oz pr (sB .len [9] 3 [t10]) fun t11 =>
 oz pr (sBin .lss 3 t6 t11 3) fun t12 =>
 condG t12 true (oa pr w (sLoad 118 a1) fun t15 =>
 oz pr (sNil t15) fun t16 =>
 oz pr (sFA 123 t16 0) fun t17 =>
 oa pr w (sLoad 9 t17) fun t18 =>
 oa pr w (sLoad 118 a1) fun t19 =>
 oz pr (sNil t19) fun t20 =>
 oz pr (sFA 123 t20 2) fun t21 =>
 oa pr w (sLoad 3 t21) fun t22 =>
 oz pr (sIdx 9 t18 t22) fun t23 =>
 o pr E w (sCall a0 [t23]) fun t24 w =>
 oz pr (sPick t12 t24 (Value.bool false)) fun t25_1 =>
 k0 t25_1 w)
  (oz pr (sPick t12 undef (Value.bool false)) fun t25_2 =>
 k0 t25_2 w))
 (fun t25 w =>
 condP t25 (o pr E w (sLoad 118 a1) fun t26 w =>
 o pr E w (sNil t26) fun t27 w =>
 o pr E w (sFA 123 t27 2) fun t28 w =>
 o pr E w (sLoad 3 t28) fun t29 w =>
 o pr E w (sBinC .add 3 t29 (Value.int IntKind.i64 1) 3) fun t30 w =>
 o pr E w (sNil t26) fun t31 w =>
 o pr E w (sFA 123 t31 2) fun t32 w =>
 o pr E w (sStore 3 t32 t30) fun _ w =>
 I1 [] w ∧ m1 [] w < m1 [] w1)
  (K (.tuple #[]) w))) (dr w)) w1
def lv_text_reader_next_1 : Lives := [(0, [0, 1]), (1, [0, 1])]
theorem sh_text_reader_next_1_ok (a0 a1 : Value) (w : World) (R : Ending → World → Prop)
    (h : sh_text_reader_next_1 (fun v w => R (.returned v) w) (fun c w => R (.panicked c) w) a0 a1 w) : Calls pr n_text_reader_next_1 #[a0, a1] w R :=
  calls_of_W (A := lv_text_reader_next_1) enters mixed Go.Proofs.Tryz.func69 (by kernel_rfl) (by kernel_rfl) (by kernel_rfl)
    (Eq.mp (by kernel_rfl) h)

/- invariants/text.letter -/
def sh_text_letter (K : Value → World → Prop) (E : PanicK) (a0 : Value) (w : World) : Prop :=
 (fun (k1 : Value → World → Prop) =>
 o pr E w (sBinL .leq 5 (Value.int IntKind.u8 97) a0 5) fun t4 w =>
 condG t4 true (o pr E w (sBinC .leq 5 a0 (Value.int IntKind.u8 122) 5) fun t7 w =>
 o pr E w (sPick t4 t7 (Value.bool false)) fun t8 w =>
 k1 t8 w)
  (o pr E w (sPick t4 undef (Value.bool false)) fun t8_1 w =>
 k1 t8_1 w))
 (fun t2 w =>
 K t2 w)
def lv_text_letter : Lives := [(1, [0])]
theorem sh_text_letter_ok (a0 : Value) (w : World) (R : Ending → World → Prop)
    (h : sh_text_letter (fun v w => R (.returned v) w) (fun c w => R (.panicked c) w) a0 w) : Calls pr n_text_letter #[a0] w R :=
  calls_of_W (A := lv_text_letter) enters mixed Go.Proofs.Tryz.func70 (by kernel_rfl) (by kernel_rfl) (by kernel_rfl)
    (Eq.mp (by kernel_rfl) h)

/- invariants/text.digit -/
def sh_text_digit (K : Value → World → Prop) (E : PanicK) (a0 : Value) (w : World) : Prop :=
 (fun (k1 : Value → World → Prop) =>
 o pr E w (sBinL .leq 5 (Value.int IntKind.u8 48) a0 5) fun t4 w =>
 condG t4 true (o pr E w (sBinC .leq 5 a0 (Value.int IntKind.u8 57) 5) fun t7 w =>
 o pr E w (sPick t4 t7 (Value.bool false)) fun t8 w =>
 k1 t8 w)
  (o pr E w (sPick t4 undef (Value.bool false)) fun t8_1 w =>
 k1 t8_1 w))
 (fun t2 w =>
 K t2 w)
def lv_text_digit : Lives := [(1, [0])]
theorem sh_text_digit_ok (a0 : Value) (w : World) (R : Ending → World → Prop)
    (h : sh_text_digit (fun v w => R (.returned v) w) (fun c w => R (.panicked c) w) a0 w) : Calls pr n_text_digit #[a0] w R :=
  calls_of_W (A := lv_text_digit) enters mixed Go.Proofs.Tryz.func71 (by kernel_rfl) (by kernel_rfl) (by kernel_rfl)
    (Eq.mp (by kernel_rfl) h)

/- invariants/text.sign -/
def sh_text_sign (K : Value → World → Prop) (E : PanicK) (a0 : Value) (w : World) : Prop :=
 ∃ j1 : List Value → World → Prop, (∀ (e1 : Nat → Value) w, j1 [] w →
 K (Value.int IntKind.i64 0) w) ∧
 o pr E w (sIdx 9 a0 (Value.int IntKind.i64 0)) fun t4 w =>
 ∃ j2 : List Value → World → Prop, (∀ (e2 : Nat → Value) w, j2 [e2 5] w →
 condP (e2 5) ((fun (k5 : Value → World → Prop) =>
 o pr E w (sB .len [9] 3 [a0]) fun t10 w =>
 o pr E w (sBinC .gtr 3 t10 (Value.int IntKind.i64 1) 3) fun t11 w =>
 condG t11 true (o pr E w (sIdx 9 a0 (Value.int IntKind.i64 1)) fun t14 w =>
 o pr E w (sBinC .eql 5 t14 (Value.int IntKind.u8 61) 5) fun t15 w =>
 o pr E w (sPick t11 t15 (Value.bool false)) fun t16_1 w =>
 k5 t16_1 w)
  (o pr E w (sPick t11 undef (Value.bool false)) fun t16_2 w =>
 k5 t16_2 w))
 (fun t16 w =>
 condP t16 (K (Value.int IntKind.i64 2) w)
  (K (Value.int IntKind.i64 1) w)))
  (o pr E w (sBinC .eql 5 t4 (Value.int IntKind.u8 33) 5) fun t18 w =>
 condP t18 ((fun (k9 : Value → World → Prop) =>
 o pr E w (sB .len [9] 3 [a0]) fun t20 w =>
 o pr E w (sBinC .gtr 3 t20 (Value.int IntKind.i64 1) 3) fun t21 w =>
 condG t21 true (o pr E w (sIdx 9 a0 (Value.int IntKind.i64 1)) fun t24 w =>
 o pr E w (sBinC .eql 5 t24 (Value.int IntKind.u8 61) 5) fun t25 w =>
 o pr E w (sPick t21 t25 (Value.bool false)) fun t26_1 w =>
 k9 t26_1 w)
  (o pr E w (sPick t21 undef (Value.bool false)) fun t26_2 w =>
 k9 t26_2 w))
 (fun t26 w =>
 condP t26 (K (Value.int IntKind.i64 2) w)
  (K (Value.int IntKind.i64 0) w)))
  (∃ j3 : List Value → World → Prop, (∀ (e3 : Nat → Value) w, j3 [e3 27] w →
 condP (e3 27) (K (Value.int IntKind.i64 1) w)
  (j1 [] w)) ∧
 o pr E w (sBinC .eql 5 t4 (Value.int IntKind.u8 43) 5) fun t28 w =>
 condP t28 (j3 [t28] w)
  (o pr E w (sBinC .eql 5 t4 (Value.int IntKind.u8 45) 5) fun t29 w =>
 condP t29 (j3 [t29] w)
  (o pr E w (sBinC .eql 5 t4 (Value.int IntKind.u8 42) 5) fun t30 w =>
 condP t30 (j3 [t30] w)
  (o pr E w (sBinC .eql 5 t4 (Value.int IntKind.u8 47) 5) fun t31 w =>
 condP t31 (j3 [t31] w)
  (o pr E w (sBinC .eql 5 t4 (Value.int IntKind.u8 37) 5) fun t32 w =>
 condP t32 (j3 [t32] w)
  (o pr E w (sBinC .eql 5 t4 (Value.int IntKind.u8 40) 5) fun t33 w =>
 condP t33 (j3 [t33] w)
  (o pr E w (sBinC .eql 5 t4 (Value.int IntKind.u8 41) 5) fun t34 w =>
 condP t34 (j3 [t34] w)
  (o pr E w (sBinC .eql 5 t4 (Value.int IntKind.u8 123) 5) fun t35 w =>
 condP t35 (j3 [t35] w)
  (o pr E w (sBinC .eql 5 t4 (Value.int IntKind.u8 125) 5) fun t36 w =>
 condP t36 (j3 [t36] w)
  (o pr E w (sBinC .eql 5 t4 (Value.int IntKind.u8 59) 5) fun t37 w =>
 j3 [t37] w)))))))))))) ∧
 o pr E w (sBinC .eql 5 t4 (Value.int IntKind.u8 60) 5) fun t6 w =>
 condP t6 (j2 [t6] w)
  (o pr E w (sBinC .eql 5 t4 (Value.int IntKind.u8 62) 5) fun t7 w =>
 condP t7 (j2 [t7] w)
  (o pr E w (sBinC .eql 5 t4 (Value.int IntKind.u8 61) 5) fun t8 w =>
 j2 [t8] w))
def lv_text_sign : Lives := [(1, [0]), (2, [0, 4]), (3, [0, 4, 5]), (4, [0, 4, 5]), (5, [0, 4, 5]), (6, [16]), (7, []), (9, [0, 4, 17]), (10, [26]), (11, []), (13, [4, 27]), (14, [4, 27]), (15, [4, 27]), (16, [4, 27]), (17, [4, 27]), (18, [4, 27]), (19, [4, 27]), (20, [4, 27]), (21, [4, 27]), (22, [27]), (23, [])]
theorem sh_text_sign_ok (a0 : Value) (w : World) (R : Ending → World → Prop)
    (h : sh_text_sign (fun v w => R (.returned v) w) (fun c w => R (.panicked c) w) a0 w) : Calls pr n_text_sign #[a0] w R :=
  calls_of_W (A := lv_text_sign) enters mixed Go.Proofs.Tryz.func72 (by kernel_rfl) (by kernel_rfl) (by kernel_rfl)
    (Eq.mp (by kernel_rfl) h)

/- (*invariants/text.reader).kinds -/
def sh_text_reader_kinds (K : Value → World → Prop) (E : PanicK) (a0 : Value) (w : World) : Prop :=
 o pr E w (sBox 118 a0) fun t1 w =>
 o pr E w (sMakeMap 188) fun t3 w =>
 o pr E w (sFunc (.func n_text_reader_kinds_1) [] [t1]) fun t4 w =>
 o pr E w (sInsert 188 t3 (Value.string (S [114, 101, 97, 100])) t4) fun _ w =>
 o pr E w (sFunc (.func n_text_reader_kinds_2) [] [t1]) fun t5 w =>
 o pr E w (sInsert 188 t3 (Value.string (S [97, 115, 115, 101, 114, 116])) t5) fun _ w =>
 o pr E w (sFunc (.func n_text_reader_kinds_3) [] [t1]) fun t6 w =>
 o pr E w (sInsert 188 t3 (Value.string (S [105, 102])) t6) fun _ w =>
 o pr E w (sFunc (.func n_text_reader_kinds_4) [] [t1]) fun t7 w =>
 o pr E w (sInsert 188 t3 (Value.string (S [119, 104, 105, 108, 101])) t7) fun _ w =>
 K t3 w
def lv_text_reader_kinds : Lives := [(1, [1])]
theorem sh_text_reader_kinds_ok (a0 : Value) (w : World) (R : Ending → World → Prop)
    (h : sh_text_reader_kinds (fun v w => R (.returned v) w) (fun c w => R (.panicked c) w) a0 w) : Calls pr n_text_reader_kinds #[a0] w R :=
  calls_of_W (A := lv_text_reader_kinds) enters mixed Go.Proofs.Tryz.func73 (by kernel_rfl) (by kernel_rfl) (by kernel_rfl)
    (Eq.mp (by kernel_rfl) h)

/- (*invariants/text.reader).token -/
def sh_text_reader_token (K : Value → World → Prop) (_E : PanicK) (a0 : Value) (w : World) : Prop :=
 (fun w =>
 oz pr (sNil a0) fun t4 =>
 oz pr (sFA 123 t4 0) fun t5 =>
 oa pr w (sLoad 9 t5) fun t6 =>
 oz pr (sNil a0) fun t8 =>
 oz pr (sFA 123 t8 1) fun t9 =>
 oa pr w (sLoad 3 t9) fun t10 =>
 oz pr (sNil a0) fun t12 =>
 oz pr (sFA 123 t12 2) fun t13 =>
 oa pr w (sLoad 3 t13) fun t14 =>
 oz pr (sSlice 9 t6 (some t10) (some t14) none) fun t15 =>
 K t15 w) (dr w)
def lv_text_reader_token : Lives := [(1, [0])]
theorem sh_text_reader_token_ok (a0 : Value) (w : World) (R : Ending → World → Prop)
    (h : sh_text_reader_token (fun v w => R (.returned v) w) (fun c w => R (.panicked c) w) a0 w) : Calls pr n_text_reader_token #[a0] w R :=
  calls_of_W (A := lv_text_reader_token) enters mixed Go.Proofs.Tryz.func74 (by kernel_rfl) (by kernel_rfl) (by kernel_rfl)
    (Eq.mp (by kernel_rfl) h)

/- (*invariants/text.reader).variable -/
def sh_text_reader_variable (K : Value → World → Prop) (E : PanicK) (a0 : Value) (w : World) : Prop :=
 cl pr E w n_text_reader_token #[a0] fun t5 w =>
 (fun (k2 : Value → World → Prop) =>
 o pr E w (sB .len [9] 3 [t5]) fun t7 w =>
 o pr E w (sBinC .neq 3 t7 (Value.int IntKind.i64 1) 3) fun t8 w =>
 condG t8 false (o pr E w (sIdx 9 t5 (Value.int IntKind.i64 0)) fun t11 w =>
 o pr E w (sBinC .lss 5 t11 (Value.int IntKind.u8 97) 5) fun t12 w =>
 o pr E w (sPick t8 (Value.bool true) t12) fun t13 w =>
 condG t13 false (o pr E w (sIdx 9 t5 (Value.int IntKind.i64 0)) fun t16 w =>
 o pr E w (sBinC .gtr 5 t16 (Value.int IntKind.u8 104) 5) fun t17 w =>
 o pr E w (sPick t13 (Value.bool true) t17) fun t18_1 w =>
 k2 t18_1 w)
  (o pr E w (sPick t13 (Value.bool true) undef) fun t18_2 w =>
 k2 t18_2 w))
  (o pr E w (sPick t8 (Value.bool true) undef) fun t13_1 w =>
 condG t13_1 false (o pr E w (sIdx 9 t5 (Value.int IntKind.i64 0)) fun t16_1 w =>
 o pr E w (sBinC .gtr 5 t16_1 (Value.int IntKind.u8 104) 5) fun t17_1 w =>
 o pr E w (sPick t13_1 (Value.bool true) t17_1) fun t18_3 w =>
 k2 t18_3 w)
  (o pr E w (sPick t13_1 (Value.bool true) undef) fun t18_4 w =>
 k2 t18_4 w)))
 (fun t18 w =>
 condP t18 (K (Value.int IntKind.i64 (-1)) w)
  (o pr E w (sIdx 9 t5 (Value.int IntKind.i64 0)) fun t20 w =>
 o pr E w (sBinC .sub 5 t20 (Value.int IntKind.u8 97) 5) fun t21 w =>
 o pr E w (sConv 5 3 t21) fun t22 w =>
 K t22 w))
def lv_text_reader_variable : Lives := [(1, [0]), (2, [3]), (3, [3, 18]), (4, [3])]
theorem sh_text_reader_variable_ok (a0 : Value) (w : World) (R : Ending → World → Prop)
    (h : sh_text_reader_variable (fun v w => R (.returned v) w) (fun c w => R (.panicked c) w) a0 w) : Calls pr n_text_reader_variable #[a0] w R :=
  calls_of_W (A := lv_text_reader_variable) enters mixed Go.Proofs.Tryz.func75 (by kernel_rfl) (by kernel_rfl) (by kernel_rfl)
    (Eq.mp (by kernel_rfl) h)

/- (*invariants/text.reader).name -/
def sh_text_reader_name (K : Value → World → Prop) (E : PanicK) (a0 : Value) (w : World) : Prop :=
 ∃ j1 : List Value → World → Prop, (∀ (e1 : Nat → Value) w, j1 [e1 3] w →
 cl pr E w n_text_reader_next #[a0] fun _ w =>
 K (e1 3) w) ∧
 cl pr E w n_text_reader_variable #[a0] fun t5 w =>
 o pr E w (sBinC .lss 3 t5 (Value.int IntKind.i64 0) 3) fun t7 w =>
 condP t7 (cl pr E w n_text_reader_leave #[a0, (Value.int IntKind.i64 2)] fun _ w =>
 j1 [t5] w)
  (j1 [t5] w)
def lv_text_reader_name : Lives := [(1, [0]), (2, [0, 3]), (3, [0, 3, 7]), (4, [0, 3]), (5, [3])]
theorem sh_text_reader_name_ok (a0 : Value) (w : World) (R : Ending → World → Prop)
    (h : sh_text_reader_name (fun v w => R (.returned v) w) (fun c w => R (.panicked c) w) a0 w) : Calls pr n_text_reader_name #[a0] w R :=
  calls_of_W (A := lv_text_reader_name) enters mixed Go.Proofs.Tryz.func76 (by kernel_rfl) (by kernel_rfl) (by kernel_rfl)
    (Eq.mp (by kernel_rfl) h)

/- (*invariants/text.reader).take -/
def sh_text_reader_take (K : Value → World → Prop) (E : PanicK) (a0 a1 : Value) (w : World) : Prop :=
 ∃ j1 : List Value → World → Prop, (∀ (e1 : Nat → Value) w, j1 [] w →
 cl pr E w n_text_reader_next #[a0] fun _ w =>
 K (.tuple #[]) w) ∧
 cl pr E w n_text_reader_token #[a0] fun t5 w =>
 o pr E w (sBin .neq 9 t5 a1 9) fun t7 w =>
 condP t7 (cl pr E w n_text_reader_leave #[a0, (Value.int IntKind.i64 2)] fun _ w =>
 j1 [] w)
  (j1 [] w)
def lv_text_reader_take : Lives := [(1, [0, 7]), (2, [0])]
theorem sh_text_reader_take_ok (a0 a1 : Value) (w : World) (R : Ending → World → Prop)
    (h : sh_text_reader_take (fun v w => R (.returned v) w) (fun c w => R (.panicked c) w) a0 a1 w) : Calls pr n_text_reader_take #[a0, a1] w R :=
  calls_of_W (A := lv_text_reader_take) enters mixed Go.Proofs.Tryz.func77 (by kernel_rfl) (by kernel_rfl) (by kernel_rfl)
    (Eq.mp (by kernel_rfl) h)

/- (*invariants/text.reader).sum -/
def sh_text_reader_sum (K : Value → World → Prop) (E : PanicK) (a0 : Value) (w : World) : Prop :=
 o pr E w (sFunc (.func n_text_reader_product) [a0] []) fun t5 w =>
 cl pr E w n_text_reader_chain #[a0, (Value.string (S [43, 45])), t5] fun t6 w =>
 K t6 w
def lv_text_reader_sum : Lives := [(1, [0])]
theorem sh_text_reader_sum_ok (a0 : Value) (w : World) (R : Ending → World → Prop)
    (h : sh_text_reader_sum (fun v w => R (.returned v) w) (fun c w => R (.panicked c) w) a0 w) : Calls pr n_text_reader_sum #[a0] w R :=
  calls_of_W (A := lv_text_reader_sum) enters mixed Go.Proofs.Tryz.func78 (by kernel_rfl) (by kernel_rfl) (by kernel_rfl)
    (Eq.mp (by kernel_rfl) h)

/- invariants/text.name -/
def sh_text_name (K : Value → World → Prop) (E : PanicK) (a0 : Value) (w : World) : Prop :=
 o pr E w (sBinL .add 3 (Value.int IntKind.i64 97) a0 3) fun t4 w =>
 o pr E w (sConv 3 21 t4) fun t5 w =>
 o pr E w (sConv 21 9 t5) fun t6 w =>
 K t6 w
def lv_text_name : Lives := [(1, [0])]
theorem sh_text_name_ok (a0 : Value) (w : World) (R : Ending → World → Prop)
    (h : sh_text_name (fun v w => R (.returned v) w) (fun c w => R (.panicked c) w) a0 w) : Calls pr n_text_name #[a0] w R :=
  calls_of_W (A := lv_text_name) enters mixed Go.Proofs.Tryz.func97 (by kernel_rfl) (by kernel_rfl) (by kernel_rfl)
    (Eq.mp (by kernel_rfl) h)

/- invariants/text.sum -/
def sh_text_sum (K : Value → World → Prop) (E : PanicK) (a0 a1 : Value) (w : World) : Prop :=
 ∃ j1 : List Value → World → Prop, (∀ (e1 : Nat → Value) w, j1 [e1 5] w →
 cl pr E w n_tree_Rank #[a0] fun t68 w =>
 o pr E w (sBin .lss 3 t68 a1 3) fun t70 w =>
 condP t70 (o pr E w (sBinL .add 9 (Value.string (S [40])) (e1 5) 9) fun t72 w =>
 o pr E w (sBinC .add 9 t72 (Value.string (S [41])) 9) fun t73 w =>
 K t73 w)
  (K (e1 5) w)) ∧
 o pr E w (sAssert a0 198 272 true) fun t12 w =>
 o pr E w (sExt t12 1) fun t13 w =>
 o pr E w (sExt t12 0) fun t14 w =>
 condP t13 (o pr E w (sNil t14) fun t16 w =>
 o pr E w (sFA 274 t16 0) fun t17 w =>
 o pr E w (sLoad 40 t17) fun t18 w =>
 o pr E w (sConv 40 3 t18) fun t19 w =>
 cl pr E w n_strconv_Itoa #[t19] fun t20 w =>
 j1 [t20] w)
  (o pr E w (sAssert a0 198 275 true) fun t21 w =>
 o pr E w (sExt t21 1) fun t22 w =>
 o pr E w (sExt t21 0) fun t23 w =>
 condP t22 (o pr E w (sNil t23) fun t25 w =>
 o pr E w (sFA 277 t25 0) fun t26 w =>
 o pr E w (sLoad 3 t26) fun t27 w =>
 cl pr E w n_text_name #[t27] fun t28 w =>
 j1 [t28] w)
  (o pr E w (sAssert a0 198 278 true) fun t29 w =>
 o pr E w (sExt t29 1) fun t30 w =>
 o pr E w (sExt t29 0) fun t31 w =>
 condP t30 (o pr E w (sNil t31) fun t33 w =>
 o pr E w (sFA 280 t33 0) fun t34 w =>
 o pr E w (sLoad 198 t34) fun t35 w =>
 cl pr E w n_text_sum #[t35, (Value.int IntKind.i64 3)] fun t36 w =>
 o pr E w (sBinL .add 9 (Value.string (S [45])) t36 9) fun t37 w =>
 j1 [t37] w)
  (o pr E w (sAssert a0 198 281 true) fun t38 w =>
 o pr E w (sExt t38 1) fun t39 w =>
 o pr E w (sExt t38 0) fun t40 w =>
 condP t39 (o pr E w (sIface 281 t40) fun t42 w =>
 cl pr E w n_tree_Rank #[t42] fun t43 w =>
 (fun w =>
 oz pr (sNil t40) fun t45 =>
 oz pr (sFA 283 t45 1) fun t46 =>
 oa pr w (sLoad 198 t46) fun t47 =>
 oz pr (sNil t40) fun t52 =>
 oz pr (sFA 283 t52 0) fun t53 =>
 oa pr w (sLoad 5 t53) fun t54 =>
 oz pr (sConv 5 21 t54) fun t55 =>
 oz pr (sConv 21 9 t55) fun t56 =>
 oz pr (sNil t40) fun t60 =>
 oz pr (sFA 283 t60 2) fun t61 =>
 oa pr w (sLoad 198 t61) fun t62 =>
 oz pr (sBinC .add 3 t43 (Value.int IntKind.i64 1) 3) fun t64 =>
 cl pr E w n_text_sum #[t47, t43] fun t49 w =>
 rk pr w (sLoad 198 t61) t62 ∧
 rk pr w (sLoad 5 t53) t54 ∧
 oz pr (sBinC .add 9 t49 (Value.string (S [32])) 9) fun t50 =>
 oz pr (sBin .add 9 t50 t56 9) fun t57 =>
 oz pr (sBinC .add 9 t57 (Value.string (S [32])) 9) fun t58 =>
 cl pr E w n_text_sum #[t62, t64] fun t65 w =>
 rk pr w (sLoad 5 t53) t54 ∧
 oz pr (sBin .add 9 t58 t65 9) fun t66 =>
 j1 [t66] w) (dr w))
  (j1 [(Value.string (S []))] w))))
def lv_text_sum : Lives := [(1, [0, 1]), (2, [0, 1, 5]), (3, [0, 1, 5, 11]), (4, [0, 1, 5, 11, 13, 14]), (5, [0, 1, 6]), (7, [0, 1, 5, 11, 22, 23]), (8, [0, 1, 7]), (10, [0, 1, 5, 11, 30, 31]), (11, [0, 1, 8]), (13, [0, 1, 5, 39, 40]), (14, [0, 1, 9]), (15, [0, 1, 9, 10]), (16, [0, 1, 5]), (17, [5, 70]), (18, [5])]
theorem sh_text_sum_ok (a0 a1 : Value) (w : World) (R : Ending → World → Prop)
    (h : sh_text_sum (fun v w => R (.returned v) w) (fun c w => R (.panicked c) w) a0 a1 w) : Calls pr n_text_sum #[a0, a1] w R :=
  calls_of_W (A := lv_text_sum) enters mixed Go.Proofs.Tryz.func98 (by kernel_rfl) (by kernel_rfl) (by kernel_rfl)
    (Eq.mp (by kernel_rfl) h)

/- invariants/text.cond -/
def sh_text_cond (K : Value → World → Prop) (E : PanicK) (a0 : Value) (w : World) : Prop :=
 o pr E w (sBox 211 a0) fun t1 w =>
 (fun w =>
 oz pr (sFA 211 t1 0) fun t3 =>
 oa pr w (sLoad 198 t3) fun t4 =>
 oz pr (sFA 211 t1 2) fun t7 =>
 oa pr w (sLoad 209 t7) fun t8 =>
 oz pr (sFA 211 t1 1) fun t12 =>
 oa pr w (sLoad 198 t12) fun t13 =>
 cl pr E w n_text_sum #[t4, (Value.int IntKind.i64 1)] fun t5 w =>
 rk pr w (sLoad 198 t12) t13 ∧
 rk pr w (sLoad 209 t7) t8 ∧
 oz pr (sBinC .add 9 t5 (Value.string (S [32])) 9) fun t6 =>
 cl pr E w n_tree_Rel_String #[t8] fun t9 w =>
 rk pr w (sLoad 198 t12) t13 ∧
 oz pr (sBin .add 9 t6 t9 9) fun t10 =>
 oz pr (sBinC .add 9 t10 (Value.string (S [32])) 9) fun t11 =>
 cl pr E w n_text_sum #[t13, (Value.int IntKind.i64 1)] fun t14 w =>
 oz pr (sBin .add 9 t11 t14 9) fun t15 =>
 K t15 w) (dr w)
def lv_text_cond : Lives := [(1, [1])]
theorem sh_text_cond_ok (a0 : Value) (w : World) (R : Ending → World → Prop)
    (h : sh_text_cond (fun v w => R (.returned v) w) (fun c w => R (.panicked c) w) a0 w) : Calls pr n_text_cond #[a0] w R :=
  calls_of_W (A := lv_text_cond) enters mixed Go.Proofs.Tryz.func99 (by kernel_rfl) (by kernel_rfl) (by kernel_rfl)
    (Eq.mp (by kernel_rfl) h)

/- (*invariants/text.reader).kinds$1 -/
def sh_text_reader_kinds_1 (K : Value → World → Prop) (E : PanicK) (a0 a1 : Value) (w : World) : Prop :=
 o pr E w (sBox 193 a0) fun t2 w =>
 (fun w =>
 oa pr w (sLoad 193 t2) fun t5 =>
 oa pr w (sLoad 118 a1) fun t6 =>
 cl pr E w n_text_reader_name #[t6] fun t7 w =>
 rk pr w (sLoad 193 t2) t5 ∧
 oz pr (sBuild 206 [(0, t5), (1, t7)]) fun t8 =>
 o pr E w (sBox 206 t8) fun t9 w =>
 o pr E w (sLoad 118 a1) fun t10 w =>
 cl pr E w n_text_reader_take #[t10, (Value.string (S [59]))] fun _ w =>
 o pr E w (sIface 204 t9) fun t13 w =>
 K t13 w) (dr w)
def lv_text_reader_kinds_1 : Lives := [(1, [1, 2]), (2, [1, 4]), (3, [4])]
theorem sh_text_reader_kinds_1_ok (a0 a1 : Value) (w : World) (R : Ending → World → Prop)
    (h : sh_text_reader_kinds_1 (fun v w => R (.returned v) w) (fun c w => R (.panicked c) w) a0 a1 w) : Calls pr n_text_reader_kinds_1 #[a0, a1] w R :=
  calls_of_W (A := lv_text_reader_kinds_1) enters mixed Go.Proofs.Tryz.func110 (by kernel_rfl) (by kernel_rfl) (by kernel_rfl)
    (Eq.mp (by kernel_rfl) h)

/- (*invariants/text.reader).kinds$2 -/
def sh_text_reader_kinds_2 (K : Value → World → Prop) (E : PanicK) (a0 a1 : Value) (w : World) : Prop :=
 o pr E w (sBox 193 a0) fun t2 w =>
 (fun w =>
 oa pr w (sLoad 193 t2) fun t5 =>
 oa pr w (sLoad 118 a1) fun t6 =>
 oz pr (sNil t6) fun t7 =>
 oz pr (sFA 123 t7 4) fun t8 =>
 oa pr w (sLoad 70 t8) fun t9 =>
 oz pr (sNil t9) fun t10 =>
 oz pr (sFA 121 t10 2) fun t11 =>
 oa pr w (sLoad 3 t11) fun t12 =>
 oz pr (sBuild 213 [(0, t5), (2, t12)]) fun t13 =>
 o pr E w (sBox 213 t13) fun t14 w =>
 o pr E w (sLoad 118 a1) fun t15 w =>
 o pr E w (sNil t15) fun t16 w =>
 o pr E w (sFA 123 t16 4) fun t17 w =>
 o pr E w (sLoad 70 t17) fun t18 w =>
 o pr E w (sNil t18) fun t19 w =>
 o pr E w (sFA 121 t19 2) fun t20 w =>
 o pr E w (sLoad 3 t20) fun t21 w =>
 o pr E w (sBinC .add 3 t21 (Value.int IntKind.i64 1) 3) fun t22 w =>
 o pr E w (sNil t18) fun t23 w =>
 o pr E w (sFA 121 t23 2) fun t24 w =>
 o pr E w (sStore 3 t24 t22) fun _ w =>
 o pr E w (sLoad 118 a1) fun t26 w =>
 cl pr E w n_text_reader_cond #[t26] fun t27 w =>
 o pr E w (sNil t14) fun t28 w =>
 o pr E w (sFA 213 t28 1) fun t29 w =>
 o pr E w (sStore 211 t29 t27) fun _ w =>
 o pr E w (sLoad 118 a1) fun t30 w =>
 cl pr E w n_text_reader_take #[t30, (Value.string (S [59]))] fun _ w =>
 o pr E w (sIface 207 t14) fun t33 w =>
 K t33 w) (dr w)
def lv_text_reader_kinds_2 : Lives := [(1, [1, 2]), (2, [1, 4]), (3, [1, 4]), (4, [1, 4]), (5, [4])]
theorem sh_text_reader_kinds_2_ok (a0 a1 : Value) (w : World) (R : Ending → World → Prop)
    (h : sh_text_reader_kinds_2 (fun v w => R (.returned v) w) (fun c w => R (.panicked c) w) a0 a1 w) : Calls pr n_text_reader_kinds_2 #[a0, a1] w R :=
  calls_of_W (A := lv_text_reader_kinds_2) enters mixed Go.Proofs.Tryz.func111 (by kernel_rfl) (by kernel_rfl) (by kernel_rfl)
    (Eq.mp (by kernel_rfl) h)

/- (*invariants/text.reader).cond -/
def sh_text_reader_cond (K : Value → World → Prop) (E : PanicK) (a0 : Value) (w : World) : Prop :=
 o pr E w (sAlloc 211) fun t2 w =>
 cl pr E w n_text_reader_sum #[a0] fun t5 w =>
 o pr E w (sBuild 211 [(0, t5)]) fun t6 w =>
 o pr E w (sAlloc 211) fun t3 w =>
 o pr E w (sStore 211 t3 t6) fun _ w =>
 ∃ j1 : List Value → World → Prop, (∀ (e1 : Nat → Value) w, j1 [] w →
 cl pr E w n_text_reader_next #[a0] fun _ w =>
 cl pr E w n_text_reader_sum #[a0] fun t19 w =>
 o pr E w (sFA 211 t3 1) fun t20 w =>
 o pr E w (sStore 198 t20 t19) fun _ w =>
 o pr E w (sLoad 211 t3) fun t21 w =>
 o pr E w (sStore 211 t2 t21) fun _ w =>
 rs pr w t2 211 fun v0_0 =>
 K v0_0 w) ∧
 cl pr E w n_text_reader_token #[a0] fun t8 w =>
 cl pr E w n_tree_RelOf #[t8] fun t9 w =>
 o pr E w (sFA 211 t3 2) fun t10 w =>
 o pr E w (sStore 209 t10 t9) fun _ w =>
 o pr E w (sFA 211 t3 2) fun t11 w =>
 o pr E w (sLoad 209 t11) fun t12 w =>
 o pr E w (sBinC .lss 209 t12 (Value.int IntKind.i64 0) 209) fun t13 w =>
 condP t13 (cl pr E w n_text_reader_leave #[a0, (Value.int IntKind.i64 2)] fun _ w =>
 j1 [] w)
  (j1 [] w)
def lv_text_reader_cond : Lives := [(1, [0, 2]), (2, [0, 2, 3]), (3, [0, 2, 3]), (4, [0, 2, 3, 13]), (5, [0, 2, 3]), (6, [0, 2, 3]), (7, [2, 3])]
theorem sh_text_reader_cond_ok (a0 : Value) (w : World) (R : Ending → World → Prop)
    (h : sh_text_reader_cond (fun v w => R (.returned v) w) (fun c w => R (.panicked c) w) a0 w) : Calls pr n_text_reader_cond #[a0] w R :=
  calls_of_W (A := lv_text_reader_cond) enters mixed Go.Proofs.Tryz.func112 (by kernel_rfl) (by kernel_rfl) (by kernel_rfl)
    (Eq.mp (by kernel_rfl) h)

/- (*invariants/text.reader).kinds$3 -/
def sh_text_reader_kinds_3 (K : Value → World → Prop) (E : PanicK) (a0 a1 : Value) (w : World) : Prop :=
 o pr E w (sBox 193 a0) fun t2 w =>
 (fun w =>
 oa pr w (sLoad 193 t2) fun t5 =>
 oa pr w (sLoad 118 a1) fun t6 =>
 cl pr E w n_text_reader_cond #[t6] fun t7 w =>
 rk pr w (sLoad 193 t2) t5 ∧
 oz pr (sBuild 216 [(0, t5), (1, t7)]) fun t8 =>
 o pr E w (sBox 216 t8) fun t9 w =>
 ∃ j1 : List Value → World → Prop, (∀ (e1 : Nat → Value) w, j1 [] w →
 o pr E w (sIface 214 t9) fun t29 w =>
 K t29 w) ∧
 o pr E w (sLoad 118 a1) fun t11 w =>
 cl pr E w n_text_reader_block #[t11] fun t12 w =>
 o pr E w (sNil t9) fun t13 w =>
 o pr E w (sFA 216 t13 2) fun t14 w =>
 o pr E w (sStore 119 t14 t12) fun _ w =>
 o pr E w (sLoad 118 a1) fun t15 w =>
 cl pr E w n_text_reader_token #[t15] fun t16 w =>
 o pr E w (sBinC .eql 9 t16 (Value.string (S [101, 108, 115, 101])) 9) fun t17 w =>
 condP t17 (o pr E w (sLoad 118 a1) fun t18 w =>
 cl pr E w n_text_reader_next #[t18] fun _ w =>
 o pr E w (sLoad 118 a1) fun t22 w =>
 cl pr E w n_text_reader_block #[t22] fun t23 w =>
 o pr E w (sNil t9) fun t24 w =>
 o pr E w (sFA 216 t24 3) fun t25 w =>
 o pr E w (sStore 119 t25 t23) fun _ w =>
 o pr E w (sNil t9) fun t26 w =>
 o pr E w (sFA 216 t26 4) fun t27 w =>
 o pr E w (sStore 4 t27 (Value.bool true)) fun _ w =>
 j1 [] w)
  (j1 [] w)) (dr w)
def lv_text_reader_kinds_3 : Lives := [(1, [1, 2]), (2, [1, 4]), (3, [1, 4]), (4, [1, 4, 17]), (5, [1, 4]), (6, [4])]
theorem sh_text_reader_kinds_3_ok (a0 a1 : Value) (w : World) (R : Ending → World → Prop)
    (h : sh_text_reader_kinds_3 (fun v w => R (.returned v) w) (fun c w => R (.panicked c) w) a0 a1 w) : Calls pr n_text_reader_kinds_3 #[a0, a1] w R :=
  calls_of_W (A := lv_text_reader_kinds_3) enters mixed Go.Proofs.Tryz.func113 (by kernel_rfl) (by kernel_rfl) (by kernel_rfl)
    (Eq.mp (by kernel_rfl) h)

/- (*invariants/text.reader).block -/
def sh_text_reader_block (K : Value → World → Prop) (E : PanicK) (a0 : Value) (w : World) : Prop :=
 o pr E w (sFunc (.func n_text_reader_statements) [a0] []) fun t6 w =>
 cl pr E w n_text_within_tree_Statement #[a0, (Value.string (S [123])), t6] fun t7 w =>
 cl pr E w n_text_reader_take #[a0, (Value.string (S [125]))] fun _ w =>
 K t7 w
def lv_text_reader_block : Lives := [(1, [0]), (2, [0, 3]), (3, [3])]
theorem sh_text_reader_block_ok (a0 : Value) (w : World) (R : Ending → World → Prop)
    (h : sh_text_reader_block (fun v w => R (.returned v) w) (fun c w => R (.panicked c) w) a0 w) : Calls pr n_text_reader_block #[a0] w R :=
  calls_of_W (A := lv_text_reader_block) enters mixed Go.Proofs.Tryz.func114 (by kernel_rfl) (by kernel_rfl) (by kernel_rfl)
    (Eq.mp (by kernel_rfl) h)

/- (*invariants/text.reader).kinds$4 -/
def sh_text_reader_kinds_4 (K : Value → World → Prop) (E : PanicK) (a0 a1 : Value) (w : World) : Prop :=
 o pr E w (sBox 193 a0) fun t2 w =>
 (fun w =>
 oa pr w (sLoad 193 t2) fun t5 =>
 oa pr w (sLoad 118 a1) fun t6 =>
 cl pr E w n_text_reader_cond #[t6] fun t7 w =>
 rk pr w (sLoad 193 t2) t5 ∧
 oz pr (sBuild 219 [(0, t5), (1, t7)]) fun t8 =>
 o pr E w (sBox 219 t8) fun t9 w =>
 o pr E w (sLoad 118 a1) fun t11 w =>
 cl pr E w n_text_reader_block #[t11] fun t12 w =>
 o pr E w (sNil t9) fun t13 w =>
 o pr E w (sFA 219 t13 2) fun t14 w =>
 o pr E w (sStore 119 t14 t12) fun _ w =>
 o pr E w (sIface 217 t9) fun t16 w =>
 K t16 w) (dr w)
def lv_text_reader_kinds_4 : Lives := [(1, [1, 2]), (2, [1, 4]), (3, [4])]
theorem sh_text_reader_kinds_4_ok (a0 a1 : Value) (w : World) (R : Ending → World → Prop)
    (h : sh_text_reader_kinds_4 (fun v w => R (.returned v) w) (fun c w => R (.panicked c) w) a0 a1 w) : Calls pr n_text_reader_kinds_4 #[a0, a1] w R :=
  calls_of_W (A := lv_text_reader_kinds_4) enters mixed Go.Proofs.Tryz.func115 (by kernel_rfl) (by kernel_rfl) (by kernel_rfl)
    (Eq.mp (by kernel_rfl) h)

/- (*invariants/text.reader).chain -/
def sh_text_reader_chain (K : Value → World → Prop) (E : PanicK) (a0 a1 a2 : Value) (w : World) : Prop :=
 ∃ (I1 : List Value → World → Prop) (m1 : List Value → World → Nat), (∀ (e1 : Nat → Value) w1, I1 [e1 6, e1 7] w1 → (fun w =>
 cl pr E w n_text_reader_token #[a0] fun t14 w =>
 o pr E w (sB .len [9] 3 [a1]) fun t16 w =>
 ∃ (I2 : List Value → World → Prop) (m2 : List Value → World → Nat), I2 [(e1 7), (Value.int IntKind.i64 0)] w ∧
 ∀ (e2 : Nat → Value) w2, I2 [e2 7, e2 17] w2 → (fun w =>
 o pr E w (sBin .lss 3 (e2 17) t16 3) fun t18 w =>
 condP t18 (o pr E w (sBinC .add 3 (e2 17) (Value.int IntKind.i64 1) 3) fun t24 w =>
 o pr E w (sSlice 9 a1 (some (e2 17)) (some t24) none) fun t25 w =>
 o pr E w (sBin .eql 9 t14 t25 9) fun t26 w =>
 condP t26 (∃ j3 : List Value → World → Prop, (∀ (e3 : Nat → Value) w, j3 [e3 10] w →
 cl pr E w n_text_reader_next #[a0] fun _ w =>
 (fun w =>
 oz pr (sIdx 9 t14 (Value.int IntKind.i64 0)) fun t53 =>
 o pr E w (sCall a2 []) fun t56 w =>
 oz pr (sBuild 283 [(0, t53), (1, (e2 7)), (2, t56), (3, (e3 10))]) fun t58 =>
 o pr E w (sBox 283 t58) fun t59 w =>
 oz pr (sIface 281 t59) fun t60 =>
 0 = 0 ∧ I1 [(e1 6), t60] w ∧ m1 [(e1 6), t60] w < m1 [e1 6, e1 7] w1) (dr w)) ∧
 (fun (k8 : Value → World → Prop) =>
 o pr E w (sBinC .eql 9 t14 (Value.string (S [47])) 9) fun t28 w =>
 condG t28 false (o pr E w (sBinC .eql 9 t14 (Value.string (S [37])) 9) fun t31 w =>
 o pr E w (sPick t28 (Value.bool true) t31) fun t32_1 w =>
 k8 t32_1 w)
  (o pr E w (sPick t28 (Value.bool true) undef) fun t32_2 w =>
 k8 t32_2 w))
 (fun t32 w =>
 condP t32 (o pr E w (sNil a0) fun t34 w =>
 o pr E w (sFA 123 t34 4) fun t35 w =>
 o pr E w (sLoad 70 t35) fun t36 w =>
 o pr E w (sNil t36) fun t37 w =>
 o pr E w (sFA 121 t37 2) fun t38 w =>
 o pr E w (sLoad 3 t38) fun t39 w =>
 o pr E w (sNil a0) fun t41 w =>
 o pr E w (sFA 123 t41 4) fun t42 w =>
 o pr E w (sLoad 70 t42) fun t43 w =>
 o pr E w (sNil t43) fun t44 w =>
 o pr E w (sFA 121 t44 2) fun t45 w =>
 o pr E w (sLoad 3 t45) fun t46 w =>
 o pr E w (sBinC .add 3 t46 (Value.int IntKind.i64 1) 3) fun t47 w =>
 o pr E w (sNil t43) fun t48 w =>
 o pr E w (sFA 121 t48 2) fun t49 w =>
 o pr E w (sStore 3 t49 t47) fun _ w =>
 j3 [t39] w)
  (j3 [(Value.int IntKind.i64 (-1))] w)))
  (o pr E w (sBinC .add 3 (e2 17) (Value.int IntKind.i64 1) 3) fun t61 w =>
 I2 [(e2 7), t61] w ∧ m2 [(e2 7), t61] w < m2 [e2 7, e2 17] w2))
  (K (e2 7) w)) w2) w1) ∧
 o pr E w (sCall a2 []) fun t12 w =>
 I1 [(Value.nilIface), t12] w
def lv_text_reader_chain : Lives := [(1, [0, 1, 2, 6]), (2, [0, 1, 2, 6, 7]), (3, [0, 1, 2, 6, 7, 8]), (4, [0, 1, 2, 6, 7, 8, 16, 17]), (5, [0, 1, 2, 6, 7, 8, 16, 17, 18]), (6, [0, 1, 2, 6, 7, 8, 9, 16, 17]), (7, [0, 1, 2, 6, 7, 8, 16, 17, 26]), (8, [0, 1, 2, 6, 7, 8, 10]), (9, [0, 1, 2, 6, 7, 8, 10, 32]), (10, [0, 1, 2, 6, 7, 8, 10]), (11, [0, 1, 2, 6, 7, 8, 10]), (12, [0, 1, 2, 6, 7, 8, 10]), (13, [0, 1, 2, 6, 7, 8, 16, 17]), (14, [7])]
theorem sh_text_reader_chain_ok (a0 a1 a2 : Value) (w : World) (R : Ending → World → Prop)
    (h : sh_text_reader_chain (fun v w => R (.returned v) w) (fun c w => R (.panicked c) w) a0 a1 a2 w) : Calls pr n_text_reader_chain #[a0, a1, a2] w R :=
  calls_of_W (A := lv_text_reader_chain) enters mixed Go.Proofs.Tryz.func116 (by kernel_rfl) (by kernel_rfl) (by kernel_rfl)
    (Eq.mp (by kernel_rfl) h)

/- (*invariants/text.reader).product -/
def sh_text_reader_product (K : Value → World → Prop) (E : PanicK) (a0 : Value) (w : World) : Prop :=
 o pr E w (sFunc (.func n_text_reader_unary) [a0] []) fun t5 w =>
 cl pr E w n_text_reader_chain #[a0, (Value.string (S [42, 47, 37])), t5] fun t6 w =>
 K t6 w
def lv_text_reader_product : Lives := [(1, [0])]
theorem sh_text_reader_product_ok (a0 : Value) (w : World) (R : Ending → World → Prop)
    (h : sh_text_reader_product (fun v w => R (.returned v) w) (fun c w => R (.panicked c) w) a0 w) : Calls pr n_text_reader_product #[a0] w R :=
  calls_of_W (A := lv_text_reader_product) enters mixed Go.Proofs.Tryz.func117 (by kernel_rfl) (by kernel_rfl) (by kernel_rfl)
    (Eq.mp (by kernel_rfl) h)

/- invariants/tree.RelOf -/
def sh_tree_RelOf (K : Value → World → Prop) (E : PanicK) (a0 : Value) (w : World) : Prop :=
 o pr E w (sLoad 343 (G 1)) fun t5 w =>
 ∃ (I1 : List Value → World → Prop) (m1 : List Value → World → Nat), I1 [(Value.int IntKind.i64 0)] w ∧
 ∀ (e1 : Nat → Value) w1, I1 [e1 6] w1 → (fun w =>
 o pr E w (sBinC .lss 3 (e1 6) (Value.int IntKind.i64 6) 3) fun t7 w =>
 condP t7 (o pr E w (sIdx 343 t5 (e1 6)) fun t9 w =>
 o pr E w (sBin .eql 9 a0 t9 9) fun t12 w =>
 condP t12 (K (e1 6) w)
  (o pr E w (sBinC .add 3 (e1 6) (Value.int IntKind.i64 1) 3) fun t14 w =>
 I1 [t14] w ∧ m1 [t14] w < m1 [e1 6] w1))
  (K (Value.int IntKind.i64 (-1)) w)) w1
def lv_tree_RelOf : Lives := [(1, [0]), (2, [0, 5, 6]), (3, [0, 5, 6, 7]), (4, [0, 3, 4, 5, 6]), (5, [0, 3, 5, 6, 12]), (6, [0, 5, 6]), (7, [])]
theorem sh_tree_RelOf_ok (a0 : Value) (w : World) (R : Ending → World → Prop)
    (h : sh_tree_RelOf (fun v w => R (.returned v) w) (fun c w => R (.panicked c) w) a0 w) : Calls pr n_tree_RelOf #[a0] w R :=
  calls_of_W (A := lv_tree_RelOf) enters mixed Go.Proofs.Tryz.func154 (by kernel_rfl) (by kernel_rfl) (by kernel_rfl)
    (Eq.mp (by kernel_rfl) h)

/- invariants/text.within[[]invariants/tree.Statement] -/
def sh_text_within_tree_Statement (K : Value → World → Prop) (E : PanicK) (a0 a1 a2 : Value) (w : World) : Prop :=
 ∃ j1 : List Value → World → Prop, (∀ (e1 : Nat → Value) w, j1 [] w →
 cl pr E w n_text_reader_take #[a0, a1] fun _ w =>
 o pr E w (sNil a0) fun t25 w =>
 o pr E w (sFA 123 t25 3) fun t26 w =>
 o pr E w (sLoad 3 t26) fun t27 w =>
 o pr E w (sBinC .add 3 t27 (Value.int IntKind.i64 1) 3) fun t28 w =>
 o pr E w (sNil a0) fun t29 w =>
 o pr E w (sFA 123 t29 3) fun t30 w =>
 o pr E w (sStore 3 t30 t28) fun _ w =>
 o pr E w (sCall a2 []) fun t32 w =>
 o pr E w (sNil a0) fun t34 w =>
 o pr E w (sFA 123 t34 3) fun t35 w =>
 o pr E w (sLoad 3 t35) fun t36 w =>
 o pr E w (sBinC .sub 3 t36 (Value.int IntKind.i64 1) 3) fun t37 w =>
 o pr E w (sNil a0) fun t38 w =>
 o pr E w (sFA 123 t38 3) fun t39 w =>
 o pr E w (sStore 3 t39 t37) fun _ w =>
 K t32 w) ∧
 (fun (k1 : Value → World → Prop) =>
 cl pr E w n_text_reader_token #[a0] fun t9 w =>
 o pr E w (sBin .eql 9 t9 a1 9) fun t11 w =>
 condG t11 true (o pr E w (sNil a0) fun t14 w =>
 o pr E w (sFA 123 t14 3) fun t15 w =>
 o pr E w (sLoad 3 t15) fun t16 w =>
 o pr E w (sBinC .eql 3 t16 (Value.int IntKind.i64 12) 3) fun t17 w =>
 o pr E w (sPick t11 t17 (Value.bool false)) fun t18_1 w =>
 k1 t18_1 w)
  (o pr E w (sPick t11 undef (Value.bool false)) fun t18_2 w =>
 k1 t18_2 w))
 (fun t18 w =>
 condP t18 (cl pr E w n_text_reader_leave #[a0, (Value.int IntKind.i64 3)] fun _ w =>
 j1 [] w)
  (j1 [] w))
def lv_text_within_tree_Statement : Lives := [(1, [0, 1, 2]), (2, [0, 1, 2, 18]), (3, [0, 1, 2]), (4, [0, 2]), (5, [0, 2]), (6, [0, 7]), (7, [7])]
theorem sh_text_within_tree_Statement_ok (a0 a1 a2 : Value) (w : World) (R : Ending → World → Prop)
    (h : sh_text_within_tree_Statement (fun v w => R (.returned v) w) (fun c w => R (.panicked c) w) a0 a1 a2 w) : Calls pr n_text_within_tree_Statement #[a0, a1, a2] w R :=
  calls_of_W (A := lv_text_within_tree_Statement) enters mixed Go.Proofs.Tryz.func155 (by kernel_rfl) (by kernel_rfl) (by kernel_rfl)
    (Eq.mp (by kernel_rfl) h)

/- (*invariants/text.reader).unary -/
def sh_text_reader_unary (K : Value → World → Prop) (E : PanicK) (a0 : Value) (w : World) : Prop :=
 o pr E w (sBox 118 a0) fun t1 w =>
 o pr E w (sLoad 118 t1) fun t6 w =>
 cl pr E w n_text_reader_token #[t6] fun t7 w =>
 o pr E w (sBinC .eql 9 t7 (Value.string (S [45])) 9) fun t9 w =>
 condP t9 (o pr E w (sLoad 118 t1) fun t10 w =>
 o pr E w (sFunc (.func n_text_reader_unary_1) [] [t1]) fun t11 w =>
 cl pr E w n_text_within_Sum #[t10, (Value.string (S [45])), t11] fun t12 w =>
 K t12 w)
  (o pr E w (sBinC .eql 9 t7 (Value.string (S [40])) 9) fun t14 w =>
 condP t14 (o pr E w (sLoad 118 t1) fun t15 w =>
 o pr E w (sLoad 118 t1) fun t16 w =>
 o pr E w (sFunc (.func n_text_reader_sum) [t16] []) fun t17 w =>
 cl pr E w n_text_within_Sum #[t15, (Value.string (S [40])), t17] fun t18 w =>
 o pr E w (sLoad 118 t1) fun t19 w =>
 cl pr E w n_text_reader_take #[t19, (Value.string (S [41]))] fun _ w =>
 K t18 w)
  (o pr E w (sLoad 118 t1) fun t22 w =>
 cl pr E w n_text_reader_variable #[t22] fun t23 w =>
 o pr E w (sBinC .geq 3 t23 (Value.int IntKind.i64 0) 3) fun t25 w =>
 condP t25 (o pr E w (sLoad 118 t1) fun t26 w =>
 cl pr E w n_text_reader_next #[t26] fun _ w =>
 o pr E w (sBuild 277 [(0, t23)]) fun t29 w =>
 o pr E w (sBox 277 t29) fun t30 w =>
 o pr E w (sIface 275 t30) fun t31 w =>
 K t31 w)
  (∃ j1 : List Value → World → Prop, (∀ (e1 : Nat → Value) w, j1 [e1 5] w →
 o pr E w (sLoad 118 t1) fun t38 w =>
 cl pr E w n_text_reader_next #[t38] fun _ w =>
 (fun w =>
 oa pr w (sLoad 118 t1) fun t40 =>
 oz pr (sNil t40) fun t41 =>
 oz pr (sFA 123 t41 4) fun t42 =>
 oa pr w (sLoad 70 t42) fun t43 =>
 oa pr w (sLoad 118 t1) fun t44 =>
 oz pr (sNil t44) fun t45 =>
 oz pr (sFA 123 t45 4) fun t46 =>
 oa pr w (sLoad 70 t46) fun t47 =>
 oz pr (sNil t47) fun t48 =>
 oz pr (sFA 121 t48 3) fun t49 =>
 oa pr w (sLoad 22 t49) fun t50 =>
 o pr E w (sBuildSlice 22 1 [(0, (e1 5))]) fun t52 w =>
 rk pr w (sLoad 22 t49) t50 ∧
 rk pr w (sLoad 70 t46) t47 ∧
 rk pr w (sLoad 118 t1) t44 ∧
 rk pr w (sLoad 70 t42) t43 ∧
 rk pr w (sLoad 118 t1) t40 ∧
 o pr E w (sB .append [22, 22] 22 [t50, t52]) fun t53 w =>
 rk pr w (sLoad 70 t42) t43 ∧
 rk pr w (sLoad 118 t1) t40 ∧
 oz pr (sNil t43) fun t54 =>
 oz pr (sFA 121 t54 3) fun t55 =>
 o pr E w (sStore 22 t55 t53) fun _ w =>
 o pr E w (sConv 3 40 (e1 5)) fun t57 w =>
 o pr E w (sBuild 274 [(0, t57)]) fun t58 w =>
 o pr E w (sBox 274 t58) fun t59 w =>
 o pr E w (sIface 272 t59) fun t60 w =>
 K t60 w) (dr w)) ∧
 o pr E w (sLoad 118 t1) fun t32 w =>
 cl pr E w n_text_reader_number #[t32] fun t33 w =>
 o pr E w (sBinC .lss 3 t33 (Value.int IntKind.i64 0) 3) fun t35 w =>
 condP t35 (o pr E w (sLoad 118 t1) fun t36 w =>
 cl pr E w n_text_reader_leave #[t36, (Value.int IntKind.i64 2)] fun _ w =>
 j1 [t33] w)
  (j1 [t33] w))))
def lv_text_reader_unary : Lives := [(1, [1]), (2, [1, 7]), (3, [1, 7, 8]), (5, [1, 13]), (6, [1, 3]), (7, [3]), (8, [1]), (9, [1, 4]), (10, [1, 4, 25]), (11, [4]), (12, [1]), (13, [1, 5]), (14, [1, 5, 35]), (15, [1, 5]), (16, [1, 5]), (17, [5])]
theorem sh_text_reader_unary_ok (a0 : Value) (w : World) (R : Ending → World → Prop)
    (h : sh_text_reader_unary (fun v w => R (.returned v) w) (fun c w => R (.panicked c) w) a0 w) : Calls pr n_text_reader_unary #[a0] w R :=
  calls_of_W (A := lv_text_reader_unary) enters mixed Go.Proofs.Tryz.func156 (by kernel_rfl) (by kernel_rfl) (by kernel_rfl)
    (Eq.mp (by kernel_rfl) h)

/- invariants/text.within[invariants/tree.Sum] -/
def sh_text_within_Sum (K : Value → World → Prop) (E : PanicK) (a0 a1 a2 : Value) (w : World) : Prop :=
 ∃ j1 : List Value → World → Prop, (∀ (e1 : Nat → Value) w, j1 [] w →
 cl pr E w n_text_reader_take #[a0, a1] fun _ w =>
 o pr E w (sNil a0) fun t25 w =>
 o pr E w (sFA 123 t25 3) fun t26 w =>
 o pr E w (sLoad 3 t26) fun t27 w =>
 o pr E w (sBinC .add 3 t27 (Value.int IntKind.i64 1) 3) fun t28 w =>
 o pr E w (sNil a0) fun t29 w =>
 o pr E w (sFA 123 t29 3) fun t30 w =>
 o pr E w (sStore 3 t30 t28) fun _ w =>
 o pr E w (sCall a2 []) fun t32 w =>
 o pr E w (sNil a0) fun t34 w =>
 o pr E w (sFA 123 t34 3) fun t35 w =>
 o pr E w (sLoad 3 t35) fun t36 w =>
 o pr E w (sBinC .sub 3 t36 (Value.int IntKind.i64 1) 3) fun t37 w =>
 o pr E w (sNil a0) fun t38 w =>
 o pr E w (sFA 123 t38 3) fun t39 w =>
 o pr E w (sStore 3 t39 t37) fun _ w =>
 K t32 w) ∧
 (fun (k1 : Value → World → Prop) =>
 cl pr E w n_text_reader_token #[a0] fun t9 w =>
 o pr E w (sBin .eql 9 t9 a1 9) fun t11 w =>
 condG t11 true (o pr E w (sNil a0) fun t14 w =>
 o pr E w (sFA 123 t14 3) fun t15 w =>
 o pr E w (sLoad 3 t15) fun t16 w =>
 o pr E w (sBinC .eql 3 t16 (Value.int IntKind.i64 12) 3) fun t17 w =>
 o pr E w (sPick t11 t17 (Value.bool false)) fun t18_1 w =>
 k1 t18_1 w)
  (o pr E w (sPick t11 undef (Value.bool false)) fun t18_2 w =>
 k1 t18_2 w))
 (fun t18 w =>
 condP t18 (cl pr E w n_text_reader_leave #[a0, (Value.int IntKind.i64 3)] fun _ w =>
 j1 [] w)
  (j1 [] w))
def lv_text_within_Sum : Lives := [(1, [0, 1, 2]), (2, [0, 1, 2, 18]), (3, [0, 1, 2]), (4, [0, 2]), (5, [0, 2]), (6, [0, 7]), (7, [7])]
theorem sh_text_within_Sum_ok (a0 a1 a2 : Value) (w : World) (R : Ending → World → Prop)
    (h : sh_text_within_Sum (fun v w => R (.returned v) w) (fun c w => R (.panicked c) w) a0 a1 a2 w) : Calls pr n_text_within_Sum #[a0, a1, a2] w R :=
  calls_of_W (A := lv_text_within_Sum) enters mixed Go.Proofs.Tryz.func185 (by kernel_rfl) (by kernel_rfl) (by kernel_rfl)
    (Eq.mp (by kernel_rfl) h)

/- (*invariants/text.reader).unary$1 -/
def sh_text_reader_unary_1 (K : Value → World → Prop) (E : PanicK) (a0 : Value) (w : World) : Prop :=
 o pr E w (sLoad 118 a0) fun t2 w =>
 cl pr E w n_text_reader_unary #[t2] fun t3 w =>
 o pr E w (sBuild 280 [(0, t3)]) fun t4 w =>
 o pr E w (sBox 280 t4) fun t5 w =>
 o pr E w (sIface 278 t5) fun t6 w =>
 K t6 w
def lv_text_reader_unary_1 : Lives := [(1, [0])]
theorem sh_text_reader_unary_1_ok (a0 : Value) (w : World) (R : Ending → World → Prop)
    (h : sh_text_reader_unary_1 (fun v w => R (.returned v) w) (fun c w => R (.panicked c) w) a0 w) : Calls pr n_text_reader_unary_1 #[a0] w R :=
  calls_of_W (A := lv_text_reader_unary_1) enters mixed Go.Proofs.Tryz.func186 (by kernel_rfl) (by kernel_rfl) (by kernel_rfl)
    (Eq.mp (by kernel_rfl) h)

/- (*invariants/text.reader).number -/
def sh_text_reader_number (K : Value → World → Prop) (E : PanicK) (a0 : Value) (w : World) : Prop :=
 cl pr E w n_text_reader_token #[a0] fun t7 w =>
 o pr E w (sB .len [9] 3 [t7]) fun t9 w =>
 ∃ (I1 : List Value → World → Prop) (m1 : List Value → World → Nat), I1 [(Value.int IntKind.i64 0), (Value.int IntKind.i64 0)] w ∧
 ∀ (e1 : Nat → Value) w1, I1 [e1 4, e1 10] w1 → (fun w =>
 o pr E w (sBin .lss 3 (e1 10) t9 3) fun t11 w =>
 condP t11 ((fun (k6 : Value → World → Prop) =>
 o pr E w (sIdx 9 t7 (e1 10)) fun t15 w =>
 cl pr E w n_text_digit #[t15] fun t16 w =>
 o pr E w (sUn .not 4 t16) fun t17 w =>
 condG t17 false (o pr E w (sBinC .gtr 3 (e1 10) (Value.int IntKind.i64 0) 3) fun t20 w =>
 condG t20 true (o pr E w (sBinC .eql 3 (e1 4) (Value.int IntKind.i64 0) 3) fun t23 w =>
 o pr E w (sPick t20 t23 (Value.bool false)) fun t24 w =>
 o pr E w (sPick t17 (Value.bool true) t24) fun t25 w =>
 condG t25 false (o pr E w (sBinC .gtr 3 (e1 4) (Value.int IntKind.i64 32767) 3) fun t28 w =>
 o pr E w (sPick t25 (Value.bool true) t28) fun t29_1 w =>
 k6 t29_1 w)
  (o pr E w (sPick t25 (Value.bool true) undef) fun t29_2 w =>
 k6 t29_2 w))
  (o pr E w (sPick t20 undef (Value.bool false)) fun t24_1 w =>
 o pr E w (sPick t17 (Value.bool true) t24_1) fun t25_1 w =>
 condG t25_1 false (o pr E w (sBinC .gtr 3 (e1 4) (Value.int IntKind.i64 32767) 3) fun t28_1 w =>
 o pr E w (sPick t25_1 (Value.bool true) t28_1) fun t29_3 w =>
 k6 t29_3 w)
  (o pr E w (sPick t25_1 (Value.bool true) undef) fun t29_4 w =>
 k6 t29_4 w)))
  (condG undef true (o pr E w (sBinC .eql 3 (e1 4) (Value.int IntKind.i64 0) 3) fun _ w =>
 o pr E w (sPick t17 (Value.bool true) undef) fun t25_2 w =>
 condG t25_2 false (o pr E w (sBinC .gtr 3 (e1 4) (Value.int IntKind.i64 32767) 3) fun t28_2 w =>
 o pr E w (sPick t25_2 (Value.bool true) t28_2) fun t29_5 w =>
 k6 t29_5 w)
  (o pr E w (sPick t25_2 (Value.bool true) undef) fun t29_6 w =>
 k6 t29_6 w))
  (o pr E w (sPick t17 (Value.bool true) undef) fun t25_3 w =>
 condG t25_3 false (o pr E w (sBinC .gtr 3 (e1 4) (Value.int IntKind.i64 32767) 3) fun t28_3 w =>
 o pr E w (sPick t25_3 (Value.bool true) t28_3) fun t29_7 w =>
 k6 t29_7 w)
  (o pr E w (sPick t25_3 (Value.bool true) undef) fun t29_8 w =>
 k6 t29_8 w))))
 (fun t29 w =>
 condP t29 (K (Value.int IntKind.i64 (-1)) w)
  (o pr E w (sBinL .mul 3 (Value.int IntKind.i64 10) (e1 4) 3) fun t31 w =>
 o pr E w (sIdx 9 t7 (e1 10)) fun t34 w =>
 o pr E w (sBinC .sub 5 t34 (Value.int IntKind.u8 48) 5) fun t35 w =>
 o pr E w (sConv 5 3 t35) fun t36 w =>
 o pr E w (sBin .add 3 t31 t36 3) fun t37 w =>
 o pr E w (sBinC .add 3 (e1 10) (Value.int IntKind.i64 1) 3) fun t38 w =>
 I1 [t37, t38] w ∧ m1 [t37, t38] w < m1 [e1 4, e1 10] w1)))
  ((fun (k10 : Value → World → Prop) =>
 o pr E w (sBinC .eql 9 t7 (Value.string (S [])) 9) fun t40 w =>
 condG t40 false (o pr E w (sBinC .gtr 3 (e1 4) (Value.int IntKind.i64 32767) 3) fun t43 w =>
 o pr E w (sPick t40 (Value.bool true) t43) fun t44_1 w =>
 k10 t44_1 w)
  (o pr E w (sPick t40 (Value.bool true) undef) fun t44_2 w =>
 k10 t44_2 w))
 (fun t44 w =>
 condP t44 (K (Value.int IntKind.i64 (-1)) w)
  (K (e1 4) w)))) w1
def lv_text_reader_number : Lives := [(1, [0]), (2, [3]), (3, [3, 4]), (4, [3, 4, 9, 10]), (5, [3, 4, 9, 10, 11]), (6, [3, 4, 5, 9, 10]), (7, [3, 4, 5, 9, 10, 29]), (8, [3, 4, 5, 9, 10]), (9, [3, 4, 9, 10]), (10, [3, 4]), (11, [4, 44]), (12, [4])]
theorem sh_text_reader_number_ok (a0 : Value) (w : World) (R : Ending → World → Prop)
    (h : sh_text_reader_number (fun v w => R (.returned v) w) (fun c w => R (.panicked c) w) a0 w) : Calls pr n_text_reader_number #[a0] w R :=
  calls_of_W (A := lv_text_reader_number) enters mixed Go.Proofs.Tryz.func187 (by kernel_rfl) (by kernel_rfl) (by kernel_rfl)
    (Eq.mp (by kernel_rfl) h)

end Go.Inv
/- Second readings of bodies. (Written by a program of ours; the kernel checks each.) -/
set_option maxRecDepth 100000
set_option linter.unusedVariables false
namespace Go.Inv
open Go.Sh
/- invariants/run.Run$1 -/
def sh_run_Run_1 (K : Value → World → Prop) (E : PanicK) (a0 a1 : Value) (w : World) : Prop :=
 o pr E w (sB .recover [] 20 []) fun t5 w =>
 ∃ j1 : List Value → World → Prop, (∀ (e1 : Nat → Value) w, j1 [e1 3] w →
 o pr E w (sLoad 127 a0) fun t18 w =>
 o pr E w (sNil t18) fun t19 w =>
 o pr E w (sFA 129 t19 3) fun t20 w =>
 o pr E w (sLoad 26 t20) fun t21 w =>
 o pr E w (sBuild 28 [(0, t21), (1, (e1 3))]) fun t23 w =>
 o pr E w (sStore 28 a1 t23) fun _ w =>
 K (.tuple #[]) w) ∧
 o pr E w (sAssert t5 20 130 true) fun t8 w =>
 o pr E w (sExt t8 0) fun t9 w =>
 o pr E w (sExt t8 1) fun t10 w =>
 (fun (k2 : Value → World → Prop) =>
 o pr E w (sBinC .neq 20 t5 (Value.nilIface) 20) fun t12 w =>
 condG t12 true (o pr E w (sUn .not 4 t10) fun t15 w =>
 o pr E w (sPick t12 t15 (Value.bool false)) fun t16_1 w =>
 k2 t16_1 w)
  (o pr E w (sPick t12 undef (Value.bool false)) fun t16_2 w =>
 k2 t16_2 w))
 (fun t16 w =>
 condP t16 (o pr E w (sPanic t5) fun _ w =>
 j1 [t9] w)
  (j1 [t9] w))
def lv_run_Run_1 : Lives := [(1, [0, 1, 2]), (2, [0, 1, 2, 3, 4]), (3, [0, 1, 2, 3, 16]), (4, [0, 1, 3])]
theorem sh_run_Run_1_ok (a0 a1 : Value) (w : World) (R : Ending → World → Prop)
    (h : sh_run_Run_1 (fun v w => R (.returned v) w) (fun c w => R (.panicked c) w) a0 a1 w) : Calls pr n_run_Run_1 #[a0, a1] w R :=
  calls_of_W (A := lv_run_Run_1) enters mixed Go.Proofs.Tryz.func48 (by kernel_rfl) (by kernel_rfl) (by kernel_rfl)
    (Eq.mp (by kernel_rfl) h)

/- (*invariants/run.machine).list -/
def sh_run_machine_list (K : Value → World → Prop) (E : PanicK) (a0 a1 : Value) (w : World) : Prop :=
 o pr E w (sB .len [119] 3 [a1]) fun t12 w =>
 ∃ (I1 : List Value → World → Prop) (m1 : List Value → World → Nat), I1 [(Value.int IntKind.i64 0)] w ∧
 ∀ (e1 : Nat → Value) w1, I1 [e1 13] w1 → (fun w =>
 o pr E w (sBin .lss 3 (e1 13) t12 3) fun t14 w =>
 ∃ j2 : List Value → World → Prop, (∀ (e2 : Nat → Value) w, j2 [] w →
 o pr E w (sBinC .add 3 (e1 13) (Value.int IntKind.i64 1) 3) fun t136 w =>
 I1 [t136] w ∧ m1 [t136] w < m1 [e1 13] w1) ∧
 condP t14 (o pr E w (sIA 119 a1 (e1 13)) fun t15 w =>
 o pr E w (sLoad 195 t15) fun t16 w =>
 o pr E w (sInvoke t16 "Where" []) fun t19 w =>
 cl pr E w n_run_machine_visit #[a0, t19] fun _ w =>
 o pr E w (sAssert t16 195 196 true) fun t22 w =>
 o pr E w (sExt t22 1) fun t23 w =>
 o pr E w (sExt t22 0) fun t24 w =>
 condP t23 ((fun w =>
 oz pr (sNil t24) fun t27 =>
 oz pr (sFA 200 t27 1) fun t28 =>
 oa pr w (sLoad 3 t28) fun t29 =>
 oz pr (sNil t24) fun t32 =>
 oz pr (sFA 200 t32 2) fun t33 =>
 oa pr w (sLoad 198 t33) fun t34 =>
 oz pr (sNil a0) fun t36 =>
 oz pr (sFA 129 t36 0) fun t37 =>
 cl pr E w n_run_machine_sum #[a0, t34] fun t35 w =>
 rk pr w (sLoad 3 t28) t29 ∧
 oz pr (sIA 94 t37 t29) fun t38 =>
 o pr E w (sStore 40 t38 t35) fun _ w =>
 j2 [] w) (dr w))
  (o pr E w (sAssert t16 195 204 true) fun t39 w =>
 o pr E w (sExt t39 1) fun t40 w =>
 o pr E w (sExt t39 0) fun t41 w =>
 condP t40 ((fun w =>
 oz pr (sNil t41) fun t44 =>
 oz pr (sFA 206 t44 1) fun t45 =>
 oa pr w (sLoad 3 t45) fun t46 =>
 oz pr (sNil a0) fun t47 =>
 oz pr (sFA 129 t47 0) fun t48 =>
 oz pr (sIA 94 t48 t46) fun t49 =>
 o pr E w (sStore 40 t49 (Value.int IntKind.i16 0)) fun _ w =>
 o pr E w (sNil a0) fun t51 w =>
 o pr E w (sFA 129 t51 1) fun t52 w =>
 o pr E w (sLoad 23 t52) fun t53 w =>
 o pr E w (sB .len [23] 3 [t53]) fun t54 w =>
 o pr E w (sBinC .gtr 3 t54 (Value.int IntKind.i64 0) 3) fun t55 w =>
 condP t55 ((fun w =>
 oz pr (sNil t41) fun t58 =>
 oz pr (sFA 206 t58 1) fun t59 =>
 oa pr w (sLoad 3 t59) fun t60 =>
 oz pr (sNil a0) fun t63 =>
 oz pr (sFA 129 t63 1) fun t64 =>
 oa pr w (sLoad 23 t64) fun t65 =>
 oz pr (sIA 23 t65 (Value.int IntKind.i64 0)) fun t66 =>
 oa pr w (sLoad 40 t66) fun t67 =>
 oz pr (sNil a0) fun t69 =>
 oz pr (sFA 129 t69 1) fun t70 =>
 oa pr w (sLoad 23 t70) fun t71 =>
 oz pr (sSlice 23 t71 (some (Value.int IntKind.i64 1)) none none) fun t72 =>
 oz pr (sNil a0) fun t73 =>
 oz pr (sFA 129 t73 0) fun t74 =>
 oz pr (sIA 94 t74 t60) fun t75 =>
 o pr E w (sStore 40 t75 t67) fun _ w =>
 oz pr (sNil a0) fun t76 =>
 oz pr (sFA 129 t76 1) fun t77 =>
 o pr E w (sStore 23 t77 t72) fun _ w =>
 j2 [] w) (dr w))
  (j2 [] w)) (dr w))
  (o pr E w (sAssert t16 195 207 true) fun t78 w =>
 o pr E w (sExt t78 1) fun t79 w =>
 o pr E w (sExt t78 0) fun t80 w =>
 condP t79 (o pr E w (sNil t80) fun t83 w =>
 o pr E w (sFA 213 t83 1) fun t84 w =>
 o pr E w (sLoad 211 t84) fun t85 w =>
 cl pr E w n_run_machine_cond #[a0, t85] fun t86 w =>
 o pr E w (sUn .not 4 t86) fun t87 w =>
 condP t87 (o pr E w (sNil t80) fun t89 w =>
 o pr E w (sFA 213 t89 2) fun t90 w =>
 o pr E w (sLoad 3 t90) fun t91 w =>
 o pr E w (sIface 130 t91) fun t92 w =>
 o pr E w (sPanic t92) fun _ w =>
 j2 [] w)
  (j2 [] w))
  (o pr E w (sAssert t16 195 214 true) fun t93 w =>
 o pr E w (sExt t93 1) fun t94 w =>
 o pr E w (sExt t93 0) fun t95 w =>
 condP t94 (o pr E w (sNil t95) fun t98 w =>
 o pr E w (sFA 216 t98 1) fun t99 w =>
 o pr E w (sLoad 211 t99) fun t100 w =>
 cl pr E w n_run_machine_cond #[a0, t100] fun t101 w =>
 condP t101 (o pr E w (sNil t95) fun t104 w =>
 o pr E w (sFA 216 t104 2) fun t105 w =>
 o pr E w (sLoad 119 t105) fun t106 w =>
 cl pr E w n_run_machine_list #[a0, t106] fun _ w =>
 j2 [] w)
  (o pr E w (sNil t95) fun t110 w =>
 o pr E w (sFA 216 t110 3) fun t111 w =>
 o pr E w (sLoad 119 t111) fun t112 w =>
 cl pr E w n_run_machine_list #[a0, t112] fun _ w =>
 j2 [] w))
  (o pr E w (sAssert t16 195 217 true) fun t114 w =>
 o pr E w (sExt t114 1) fun t115 w =>
 o pr E w (sExt t114 0) fun t116 w =>
 condP t115 (∃ (I3 : List Value → World → Prop) (m3 : List Value → World → Nat), I3 [] w ∧
 ∀ (e3 : Nat → Value) w3, I3 [] w3 → (fun w =>
 o pr E w (sNil t116) fun t119 w =>
 o pr E w (sFA 219 t119 1) fun t120 w =>
 o pr E w (sLoad 211 t120) fun t121 w =>
 cl pr E w n_run_machine_cond #[a0, t121] fun t122 w =>
 condP t122 (o pr E w (sNil t116) fun t125 w =>
 o pr E w (sFA 219 t125 2) fun t126 w =>
 o pr E w (sLoad 119 t126) fun t127 w =>
 cl pr E w n_run_machine_list #[a0, t127] fun _ w =>
 o pr E w (sNil t116) fun t131 w =>
 o pr E w (sFA 219 t131 0) fun t132 w =>
 o pr E w (sLoad 193 t132) fun t133 w =>
 cl pr E w n_tree_Point_Where #[t133] fun t134 w =>
 cl pr E w n_run_machine_visit #[a0, t134] fun _ w =>
 I3 [] w ∧ m3 [] w < m3 [] w3)
  (j2 [] w)) w3)
  (j2 [] w))))))
  (K (.tuple #[]) w)) w1
def lv_run_machine_list : Lives := [(1, [0, 11, 12, 13]), (2, [0, 11, 12, 13, 14]), (3, [0, 5, 11, 12, 13]), (4, [0, 5, 11, 12, 13]), (5, [0, 11, 12, 13, 21]), (6, [0, 11, 12, 13, 21, 23, 24]), (7, [0, 6, 11, 12, 13]), (9, [0, 11, 12, 13, 21, 40, 41]), (10, [0, 7, 11, 12, 13]), (11, [0, 7, 11, 12, 13]), (12, [0, 7, 11, 12, 13, 55]), (14, [0, 11, 12, 13, 21, 79, 80]), (15, [0, 8, 11, 12, 13]), (16, [0, 8, 11, 12, 13, 87]), (18, [0, 11, 12, 13, 21, 94, 95]), (19, [0, 9, 11, 12, 13]), (20, [0, 9, 11, 12, 13, 101]), (23, [0, 11, 12, 13, 115, 116]), (24, [0, 10, 11, 12, 13]), (25, [0, 10, 11, 12, 13]), (26, [0, 10, 11, 12, 13]), (27, [0, 11, 12, 13])]
theorem sh_run_machine_list_ok (a0 a1 : Value) (w : World) (R : Ending → World → Prop)
    (h : sh_run_machine_list (fun v w => R (.returned v) w) (fun c w => R (.panicked c) w) a0 a1 w) : Calls pr n_run_machine_list #[a0, a1] w R :=
  calls_of_W (A := lv_run_machine_list) enters mixed Go.Proofs.Tryz.func49 (by kernel_rfl) (by kernel_rfl) (by kernel_rfl)
    (Eq.mp (by kernel_rfl) h)

/- (*invariants/run.machine).visit -/
def sh_run_machine_visit (K : Value → World → Prop) (E : PanicK) (a0 a1 : Value) (w : World) : Prop :=
 ∃ j1 : List Value → World → Prop, (∀ (e1 : Nat → Value) w, j1 [] w →
 o pr E w (sNil a0) fun t11 w =>
 o pr E w (sFA 129 t11 2) fun t12 w =>
 o pr E w (sLoad 3 t12) fun t13 w =>
 o pr E w (sBinC .sub 3 t13 (Value.int IntKind.i64 1) 3) fun t14 w =>
 o pr E w (sNil a0) fun t15 w =>
 o pr E w (sFA 129 t15 2) fun t16 w =>
 o pr E w (sStore 3 t16 t14) fun _ w =>
 (fun w =>
 oz pr (sNil a0) fun t19 =>
 oz pr (sFA 129 t19 3) fun t20 =>
 oa pr w (sLoad 26 t20) fun t21 =>
 oz pr (sNil a0) fun t24 =>
 oz pr (sFA 129 t24 0) fun t25 =>
 oa pr w (sLoad 94 t25) fun t26 =>
 oz pr (sBuild 96 [(0, a1), (1, t26)]) fun t27 =>
 o pr E w (sBuildSlice 26 1 [(0, t27)]) fun t28 w =>
 rk pr w (sLoad 26 t20) t21 ∧
 o pr E w (sB .append [26, 26] 26 [t21, t28]) fun t29 w =>
 oz pr (sNil a0) fun t30 =>
 oz pr (sFA 129 t30 3) fun t31 =>
 o pr E w (sStore 26 t31 t29) fun _ w =>
 K (.tuple #[]) w) (dr w)) ∧
 o pr E w (sNil a0) fun t5 w =>
 o pr E w (sFA 129 t5 2) fun t6 w =>
 o pr E w (sLoad 3 t6) fun t7 w =>
 o pr E w (sBinC .eql 3 t7 (Value.int IntKind.i64 0) 3) fun t8 w =>
 condP t8 (o pr E w (sIface 130 (Value.int IntKind.i64 (-2))) fun t9 w =>
 o pr E w (sPanic t9) fun _ w =>
 j1 [] w)
  (j1 [] w)
def lv_run_machine_visit : Lives := [(1, [0, 1, 8]), (2, [0, 1]), (3, [0, 1])]
theorem sh_run_machine_visit_ok (a0 a1 : Value) (w : World) (R : Ending → World → Prop)
    (h : sh_run_machine_visit (fun v w => R (.returned v) w) (fun c w => R (.panicked c) w) a0 a1 w) : Calls pr n_run_machine_visit #[a0, a1] w R :=
  calls_of_W (A := lv_run_machine_visit) enters mixed Go.Proofs.Tryz.func50 (by kernel_rfl) (by kernel_rfl) (by kernel_rfl)
    (Eq.mp (by kernel_rfl) h)

/- (*invariants/run.machine).sum -/
def sh_run_machine_sum (K : Value → World → Prop) (E : PanicK) (a0 a1 : Value) (w : World) : Prop :=
 o pr E w (sAssert a1 198 272 true) fun t12 w =>
 o pr E w (sExt t12 1) fun t13 w =>
 o pr E w (sExt t12 0) fun t14 w =>
 condP t13 (o pr E w (sNil t14) fun t16 w =>
 o pr E w (sFA 274 t16 0) fun t17 w =>
 o pr E w (sLoad 40 t17) fun t18 w =>
 K t18 w)
  (o pr E w (sAssert a1 198 275 true) fun t19 w =>
 o pr E w (sExt t19 1) fun t20 w =>
 o pr E w (sExt t19 0) fun t21 w =>
 condP t20 ((fun w =>
 oz pr (sNil t21) fun t24 =>
 oz pr (sFA 277 t24 0) fun t25 =>
 oa pr w (sLoad 3 t25) fun t26 =>
 oz pr (sNil a0) fun t27 =>
 oz pr (sFA 129 t27 0) fun t28 =>
 oz pr (sIA 94 t28 t26) fun t29 =>
 oa pr w (sLoad 40 t29) fun t30 =>
 K t30 w) (dr w))
  (o pr E w (sAssert a1 198 278 true) fun t31 w =>
 o pr E w (sExt t31 1) fun t32 w =>
 o pr E w (sExt t31 0) fun t33 w =>
 condP t32 (o pr E w (sNil t33) fun t36 w =>
 o pr E w (sFA 280 t36 0) fun t37 w =>
 o pr E w (sLoad 198 t37) fun t38 w =>
 cl pr E w n_run_machine_sum #[a0, t38] fun t39 w =>
 o pr E w (sUn .neg 40 t39) fun t40 w =>
 K t40 w)
  (o pr E w (sAssert a1 198 281 true) fun t41 w =>
 o pr E w (sExt t41 1) fun t42 w =>
 o pr E w (sExt t41 0) fun t43 w =>
 condP t42 (o pr E w (sNil t43) fun t46 w =>
 o pr E w (sFA 283 t46 1) fun t47 w =>
 o pr E w (sLoad 198 t47) fun t48 w =>
 cl pr E w n_run_machine_sum #[a0, t48] fun t49 w =>
 o pr E w (sNil t43) fun t52 w =>
 o pr E w (sFA 283 t52 2) fun t53 w =>
 o pr E w (sLoad 198 t53) fun t54 w =>
 cl pr E w n_run_machine_sum #[a0, t54] fun t55 w =>
 ∃ j1 : List Value → World → Prop, (∀ (e1 : Nat → Value) w, j1 [] w →
 o pr E w (sNil t43) fun t83 w =>
 o pr E w (sFA 283 t83 0) fun t84 w =>
 o pr E w (sLoad 5 t84) fun t85 w =>
 o pr E w (sBinC .eql 5 t85 (Value.int IntKind.u8 47) 5) fun t86 w =>
 condP t86 (o pr E w (sBin .quo 40 t49 t55 40) fun t89 w =>
 K t89 w)
  (o pr E w (sBin .rem 40 t49 t55 40) fun t92 w =>
 K t92 w)) ∧
 o pr E w (sNil t43) fun t57 w =>
 o pr E w (sFA 283 t57 0) fun t58 w =>
 o pr E w (sLoad 5 t58) fun t59 w =>
 o pr E w (sBinC .eql 5 t59 (Value.int IntKind.u8 43) 5) fun t61 w =>
 condP t61 (o pr E w (sBin .add 40 t49 t55 40) fun t64 w =>
 K t64 w)
  (o pr E w (sBinC .eql 5 t59 (Value.int IntKind.u8 45) 5) fun t66 w =>
 condP t66 (o pr E w (sBin .sub 40 t49 t55 40) fun t69 w =>
 K t69 w)
  (o pr E w (sBinC .eql 5 t59 (Value.int IntKind.u8 42) 5) fun t71 w =>
 condP t71 (o pr E w (sBin .mul 40 t49 t55 40) fun t74 w =>
 K t74 w)
  (o pr E w (sBinC .eql 40 t55 (Value.int IntKind.i16 0) 40) fun t76 w =>
 condP t76 (o pr E w (sNil t43) fun t78 w =>
 o pr E w (sFA 283 t78 3) fun t79 w =>
 o pr E w (sLoad 3 t79) fun t80 w =>
 o pr E w (sIface 130 t80) fun t81 w =>
 o pr E w (sPanic t81) fun _ w =>
 j1 [] w)
  (j1 [] w)))))
  (K (Value.int IntKind.i16 0) w))))
def lv_run_machine_sum : Lives := [(1, [0, 1]), (2, [0, 11]), (3, [0, 11, 13, 14]), (4, [5]), (6, [0, 11, 20, 21]), (7, [0, 6]), (9, [0, 11, 32, 33]), (10, [0, 7]), (12, [0, 42, 43]), (13, [0, 8]), (14, [0, 8, 9]), (15, [8, 9, 10]), (16, [8, 9, 10, 59]), (17, [8, 9, 10, 59, 60]), (19, [8, 9, 10, 59, 65]), (21, [8, 9, 10, 70]), (22, [8, 9, 10]), (23, [8, 9, 10, 76]), (24, [8, 9, 10]), (25, [9, 10, 86]), (26, [9, 10]), (27, [])]
theorem sh_run_machine_sum_ok (a0 a1 : Value) (w : World) (R : Ending → World → Prop)
    (h : sh_run_machine_sum (fun v w => R (.returned v) w) (fun c w => R (.panicked c) w) a0 a1 w) : Calls pr n_run_machine_sum #[a0, a1] w R :=
  calls_of_W (A := lv_run_machine_sum) enters mixed Go.Proofs.Tryz.func79 (by kernel_rfl) (by kernel_rfl) (by kernel_rfl)
    (Eq.mp (by kernel_rfl) h)

/- (*invariants/run.machine).cond -/
def sh_run_machine_cond (K : Value → World → Prop) (E : PanicK) (a0 a1 : Value) (w : World) : Prop :=
 o pr E w (sBox 211 a1) fun t3 w =>
 o pr E w (sFA 211 t3 0) fun t8 w =>
 o pr E w (sLoad 198 t8) fun t9 w =>
 cl pr E w n_run_machine_sum #[a0, t9] fun t10 w =>
 o pr E w (sFA 211 t3 1) fun t12 w =>
 o pr E w (sLoad 198 t12) fun t13 w =>
 cl pr E w n_run_machine_sum #[a0, t13] fun t14 w =>
 o pr E w (sFA 211 t3 2) fun t15 w =>
 o pr E w (sLoad 209 t15) fun t16 w =>
 o pr E w (sConv 40 3 t10) fun t18 w =>
 o pr E w (sConv 40 3 t14) fun t20 w =>
 cl pr E w n_tree_Rel_Holds #[t16, t18, t20] fun t21 w =>
 K t21 w
def lv_run_machine_cond : Lives := [(1, [0, 3]), (2, [0, 3, 5]), (3, [3, 5, 6])]
theorem sh_run_machine_cond_ok (a0 a1 : Value) (w : World) (R : Ending → World → Prop)
    (h : sh_run_machine_cond (fun v w => R (.returned v) w) (fun c w => R (.panicked c) w) a0 a1 w) : Calls pr n_run_machine_cond #[a0, a1] w R :=
  calls_of_W (A := lv_run_machine_cond) enters mixed Go.Proofs.Tryz.func80 (by kernel_rfl) (by kernel_rfl) (by kernel_rfl)
    (Eq.mp (by kernel_rfl) h)

/- (invariants/tree.Point).Where -/
def sh_tree_Point_Where (K : Value → World → Prop) (E : PanicK) (a0 : Value) (w : World) : Prop :=
 o pr E w (sBox 193 a0) fun t1 w =>
 o pr E w (sFA 193 t1 0) fun t3 w =>
 o pr E w (sLoad 3 t3) fun t4 w =>
 K t4 w
def lv_tree_Point_Where : Lives := [(1, [1])]
theorem sh_tree_Point_Where_ok (a0 : Value) (w : World) (R : Ending → World → Prop)
    (h : sh_tree_Point_Where (fun v w => R (.returned v) w) (fun c w => R (.panicked c) w) a0 w) : Calls pr n_tree_Point_Where #[a0] w R :=
  calls_of_W (A := lv_tree_Point_Where) enters mixed Go.Proofs.Tryz.func81 (by kernel_rfl) (by kernel_rfl) (by kernel_rfl)
    (Eq.mp (by kernel_rfl) h)

/- (invariants/tree.Rel).Holds -/
def sh_tree_Rel_Holds (K : Value → World → Prop) (E : PanicK) (a0 a1 a2 : Value) (w : World) : Prop :=
 o pr E w (sBinC .eql 209 a0 (Value.int IntKind.i64 0) 209) fun t9 w =>
 condP t9 (o pr E w (sBin .lss 3 a1 a2 3) fun t12 w =>
 K t12 w)
  (o pr E w (sBinC .eql 209 a0 (Value.int IntKind.i64 1) 209) fun t14 w =>
 condP t14 (o pr E w (sBin .geq 3 a1 a2 3) fun t17 w =>
 K t17 w)
  (o pr E w (sBinC .eql 209 a0 (Value.int IntKind.i64 2) 209) fun t19 w =>
 condP t19 (o pr E w (sBin .leq 3 a1 a2 3) fun t22 w =>
 K t22 w)
  (o pr E w (sBinC .eql 209 a0 (Value.int IntKind.i64 3) 209) fun t24 w =>
 condP t24 (o pr E w (sBin .gtr 3 a1 a2 3) fun t27 w =>
 K t27 w)
  (o pr E w (sBinC .eql 209 a0 (Value.int IntKind.i64 4) 209) fun t29 w =>
 condP t29 (o pr E w (sBin .eql 3 a1 a2 3) fun t32 w =>
 K t32 w)
  (o pr E w (sBin .neq 3 a1 a2 3) fun t35 w =>
 K t35 w)))))
def lv_tree_Rel_Holds : Lives := [(1, [0, 1, 2]), (2, [1, 2, 7]), (3, [1, 2, 7, 8]), (5, [1, 2, 7, 13]), (7, [1, 2, 7, 18]), (9, [1, 2, 7, 23]), (11, [1, 2, 28]), (12, [1, 2])]
theorem sh_tree_Rel_Holds_ok (a0 a1 a2 : Value) (w : World) (R : Ending → World → Prop)
    (h : sh_tree_Rel_Holds (fun v w => R (.returned v) w) (fun c w => R (.panicked c) w) a0 a1 a2 w) : Calls pr n_tree_Rel_Holds #[a0, a1, a2] w R :=
  calls_of_W (A := lv_tree_Rel_Holds) enters mixed Go.Proofs.Tryz.func118 (by kernel_rfl) (by kernel_rfl) (by kernel_rfl)
    (Eq.mp (by kernel_rfl) h)

/- (invariants/tree.Rel).String -/
def sh_tree_Rel_String (K : Value → World → Prop) (E : PanicK) (a0 : Value) (w : World) : Prop :=
 o pr E w (sIA 343 (G 1) a0) fun t4 w =>
 o pr E w (sLoad 9 t4) fun t5 w =>
 K t5 w
def lv_tree_Rel_String : Lives := [(1, [0])]
theorem sh_tree_Rel_String_ok (a0 : Value) (w : World) (R : Ending → World → Prop)
    (h : sh_tree_Rel_String (fun v w => R (.returned v) w) (fun c w => R (.panicked c) w) a0 w) : Calls pr n_tree_Rel_String #[a0] w R :=
  calls_of_W (A := lv_tree_Rel_String) enters mixed Go.Proofs.Tryz.func142 (by kernel_rfl) (by kernel_rfl) (by kernel_rfl)
    (Eq.mp (by kernel_rfl) h)

/- (invariants/tree.Rel).Opposite -/
def sh_tree_Rel_Opposite (K : Value → World → Prop) (E : PanicK) (a0 : Value) (w : World) : Prop :=
 o pr E w (sBinC .xor 209 a0 (Value.int IntKind.i64 1) 209) fun t4 w =>
 K t4 w
def lv_tree_Rel_Opposite : Lives := [(1, [0])]
theorem sh_tree_Rel_Opposite_ok (a0 : Value) (w : World) (R : Ending → World → Prop)
    (h : sh_tree_Rel_Opposite (fun v w => R (.returned v) w) (fun c w => R (.panicked c) w) a0 w) : Calls pr n_tree_Rel_Opposite #[a0] w R :=
  calls_of_W (A := lv_tree_Rel_Opposite) enters mixed Go.Proofs.Tryz.func162 (by kernel_rfl) (by kernel_rfl) (by kernel_rfl)
    (Eq.mp (by kernel_rfl) h)

end Go.Inv
/- Second readings of bodies. (Written by a program of ours; the kernel checks each.) -/
set_option maxRecDepth 100000
set_option linter.unusedVariables false
set_option linter.defProp false
namespace Go.Inv
open Go.Sh
/-- Behind the defer. -/
def shd_text_Read_b (RD : World → Prop) (E : PanicK) (a0 t13 t2 t3 : Value) (w : World) : Prop :=
 cl pr E w n_text_reader_next #[t13] fun t16 w =>
 ∃ j1 : List Value → World → Prop, (∀ (e1 : Nat → Value) w, j1 [] w →
 o pr E w (sNil t13) fun t35 w =>
 o pr E w (sFA 123 t35 4) fun t36 w =>
 o pr E w (sLoad 70 t36) fun t37 w =>
 o pr E w (sNil t37) fun t38 w =>
 o pr E w (sFA 121 t38 1) fun t39 w =>
 o pr E w (sLoad 3 t39) fun t40 w =>
 o pr E w (sBinC .add 3 t40 (Value.int IntKind.i64 1) 3) fun t41 w =>
 o pr E w (sNil t37) fun t42 w =>
 o pr E w (sFA 121 t42 1) fun t43 w =>
 o pr E w (sStore 3 t43 t41) fun _ w =>
 o pr E w (sNil t13) fun t45 w =>
 o pr E w (sFA 123 t45 4) fun t46 w =>
 o pr E w (sLoad 70 t46) fun t47 w =>
 o pr E w (sStore 70 t2 t47) fun _ w =>
 o pr E w (sStore 30 t3 (Value.nilIface)) fun _ w =>
 RD w) ∧
 (fun w =>
 oz pr (sNil t13) fun t18 =>
 oz pr (sFA 123 t18 4) fun t19 =>
 oa pr w (sLoad 70 t19) fun t20 =>
 cl pr E w n_text_reader_statements #[t13] fun t22 w =>
 rk pr w (sLoad 70 t19) t20 ∧
 oz pr (sNil t20) fun t23 =>
 oz pr (sFA 121 t23 0) fun t24 =>
 o pr E w (sStore 119 t24 t22) fun _ w =>
 o pr E w (sNil t13) fun t26 w =>
 o pr E w (sFA 123 t26 1) fun t27 w =>
 o pr E w (sLoad 3 t27) fun t28 w =>
 o pr E w (sB .len [9] 3 [a0]) fun t30 w =>
 o pr E w (sBin .lss 3 t28 t30 3) fun t31 w =>
 condP t31 (cl pr E w n_text_reader_leave #[t13, (Value.int IntKind.i64 2)] fun t33 w =>
 j1 [] w)
  (j1 [] w)) (dr w)
/- invariants/text.Read -/
def shd_text_Read (K : Value → World → Prop) (E : PanicK) (a0 : Value) (w : World) : Prop :=
 o pr E w (sAlloc 70) fun t2 w =>
 o pr E w (sAlloc 30) fun t3 w =>
 o pr E w (sB .len [9] 3 [a0]) fun t6 w =>
 o pr E w (sBinC .gtr 3 t6 (Value.int IntKind.i64 400) 3) fun t7 w =>
 condP t7 (o pr E w (sIface 33 (Value.int IntKind.i64 1)) fun t8 w =>
 o pr E w (sStore 70 t2 (Value.pointer none)) fun _ w =>
 o pr E w (sStore 30 t3 t8) fun _ w =>
 rs pr w t2 70 fun v0_0 =>
 rs pr w t3 30 fun v1_1 =>
 K (.tuple #[v0_0, v1_1]) w)
  (o pr E w (sBuild 121 []) fun t10 w =>
 o pr E w (sBox 121 t10) fun t11 w =>
 o pr E w (sBuild 123 [(0, a0), (4, t11)]) fun t12 w =>
 o pr E w (sBox 123 t12) fun t13 w =>
 o pr E w (sFunc (.func n_text_Read_1) [] [t2, t3]) fun t14 w =>
 fnV t14 ∧
 (fun (RK : World → Prop) => shd_text_Read_b (fun w => dfr pr t14 RK E .returning w) (fun c w => dfr pr t14 RK E (.panicking c) w) a0 t13 t2 t3 w) (fun w =>
 rs pr w t2 70 fun v0_2 =>
 rs pr w t3 30 fun v1_3 =>
 K (.tuple #[v0_2, v1_3]) w))
def lvd_text_Read : Lives := [(1, [0, 2, 3]), (2, [0, 2, 3, 7]), (3, [0, 2, 3]), (4, [0, 2, 3, 4]), (5, [0, 2, 3, 4]), (6, [0, 2, 3, 4]), (7, [0, 2, 3, 4]), (8, [2, 3, 4, 31]), (9, [2, 3, 4]), (10, [2, 3, 4])]
theorem shd_text_Read_ok (a0 : Value) (w : World) (R : Ending → World → Prop)
    (h : shd_text_Read (fun v w => R (.returned v) w) (fun c w => R (.panicked c) w) a0 w) : Calls pr n_text_Read #[a0] w R :=
  calls_of_WD (A := lvd_text_Read) enters mixed Go.Proofs.Tryz.func32 (by kernel_rfl) (by kernel_rfl) (by kernel_rfl)
    (Eq.mp (by kernel_rfl) h)

/- invariants/text.Read$1 -/
def shd_text_Read_1 (K : Value → World → Prop) (E : PanicK) (a0 a1 rv : Value) (w : World) : Prop :=
 o pr E w (sBinC .neq 20 rv (Value.nilIface) 20) fun t7 w =>
 condP t7 (∃ j1 : List Value → World → Prop, (∀ (e1 : Nat → Value) w, j1 [e1 3] w →
 o pr E w (sIface 74 (e1 3)) fun t17 w =>
 o pr E w (sStore 70 a0 (Value.pointer none)) fun _ w =>
 o pr E w (sStore 30 a1 t17) fun _ w =>
 K (.tuple #[]) w) ∧
 o pr E w (sAssert rv 20 74 true) fun t10 w =>
 o pr E w (sExt t10 0) fun t11 w =>
 o pr E w (sExt t10 1) fun t12 w =>
 o pr E w (sUn .not 4 t12) fun t14 w =>
 condP t14 (o pr E w (sPanic rv) fun _ w =>
 j1 [t11] w)
  (j1 [t11] w))
  (K (.tuple #[]) w)
def lvd_text_Read_1 : Lives := [(2, [0, 1, 2, 7]), (3, [0, 1, 2, 3, 4]), (4, [0, 1, 2, 3, 14]), (5, [0, 1, 3])]
theorem shd_text_Read_1_ok (a0 a1 : Value) (u : FrameMode) (w : World) (R : Ending → FrameMode → World → Prop)
    (h : shd_text_Read_1 (fun v w => R (.returned v) (recU u).2 w) (fun c w => R (.panicked c) (recU u).2 w) a0 a1 (recU u).1 w) : CallsD pr n_text_Read_1 #[a0, a1] u w R :=
  callsD_of_W (A := lvd_text_Read_1) enters mixed Go.Proofs.Tryz.func44 (by kernel_rfl) (by kernel_rfl) (by kernel_rfl) (by kernel_rfl) (by kernel_rfl) (by kernel_rfl)
    (Eq.mp (by kernel_rfl) h)

/-- Behind the defer. -/
def shd_run_Run_b (RD : World → Prop) (E : PanicK) (a0 t7 : Value) (w : World) : Prop :=
 (fun w =>
 oa pr w (sLoad 127 t7) fun t13 =>
 oz pr (sNil a0) fun t15 =>
 oz pr (sFA 121 t15 0) fun t16 =>
 oa pr w (sLoad 119 t16) fun t17 =>
 cl pr E w n_run_machine_list #[t13, t17] fun t18 w =>
 (fun w =>
 oa pr w (sLoad 127 t7) fun t19 =>
 oz pr (sNil a0) fun t21 =>
 oz pr (sFA 121 t21 1) fun t22 =>
 oa pr w (sLoad 3 t22) fun t23 =>
 oz pr (sBinC .sub 3 t23 (Value.int IntKind.i64 1) 3) fun t24 =>
 cl pr E w n_run_machine_visit #[t19, t24] fun t25 w =>
 o pr E w (sIface 130 (Value.int IntKind.i64 (-1))) fun t26 w =>
 o pr E w (sPanic t26) fun _ w =>
 RD w) (dr w)) (dr w)
/- invariants/run.Run -/
def shd_run_Run (K : Value → World → Prop) (E : PanicK) (a0 a1 a2 : Value) (w : World) : Prop :=
 o pr E w (sAlloc 28) fun t6 w =>
 o pr E w (sBuild 129 [(1, a1), (2, a2)]) fun t10 w =>
 o pr E w (sBox 129 t10) fun t11 w =>
 o pr E w (sAlloc 127) fun t7 w =>
 o pr E w (sStore 127 t7 t11) fun _ w =>
 o pr E w (sFunc (.func n_run_Run_1) [] [t7, t6]) fun t12 w =>
 fnV t12 ∧
 (fun (RK : World → Prop) => shd_run_Run_b (fun w => dfr pr t12 RK E .returning w) (fun c w => dfr pr t12 RK E (.panicking c) w) a0 t7 w) (fun w =>
 rs pr w t6 28 fun v0_0 =>
 K v0_0 w)
def lvd_run_Run : Lives := [(1, [0, 1, 2, 6]), (2, [0, 6, 7]), (3, [0, 6, 7]), (4, [0, 6, 7]), (5, [6])]
theorem shd_run_Run_ok (a0 a1 a2 : Value) (w : World) (R : Ending → World → Prop)
    (h : shd_run_Run (fun v w => R (.returned v) w) (fun c w => R (.panicked c) w) a0 a1 a2 w) : Calls pr n_run_Run #[a0, a1, a2] w R :=
  calls_of_WD (A := lvd_run_Run) enters mixed Go.Proofs.Tryz.func33 (by kernel_rfl) (by kernel_rfl) (by kernel_rfl)
    (Eq.mp (by kernel_rfl) h)

/- invariants/run.Run$1 -/
def shd_run_Run_1 (K : Value → World → Prop) (E : PanicK) (a0 a1 rv : Value) (w : World) : Prop :=
 ∃ j1 : List Value → World → Prop, (∀ (e1 : Nat → Value) w, j1 [e1 3] w →
 o pr E w (sLoad 127 a0) fun t18 w =>
 o pr E w (sNil t18) fun t19 w =>
 o pr E w (sFA 129 t19 3) fun t20 w =>
 o pr E w (sLoad 26 t20) fun t21 w =>
 o pr E w (sBuild 28 [(0, t21), (1, (e1 3))]) fun t23 w =>
 o pr E w (sStore 28 a1 t23) fun _ w =>
 K (.tuple #[]) w) ∧
 o pr E w (sAssert rv 20 130 true) fun t8 w =>
 o pr E w (sExt t8 0) fun t9 w =>
 o pr E w (sExt t8 1) fun t10 w =>
 (fun (k2 : Value → World → Prop) =>
 o pr E w (sBinC .neq 20 rv (Value.nilIface) 20) fun t12 w =>
 condG t12 true (o pr E w (sUn .not 4 t10) fun t15 w =>
 o pr E w (sPick t12 t15 (Value.bool false)) fun t16_1 w =>
 k2 t16_1 w)
  (o pr E w (sPick t12 undef (Value.bool false)) fun t16_2 w =>
 k2 t16_2 w))
 (fun t16 w =>
 condP t16 (o pr E w (sPanic rv) fun _ w =>
 j1 [t9] w)
  (j1 [t9] w))
def lvd_run_Run_1 : Lives := [(2, [0, 1, 2, 3, 4]), (3, [0, 1, 2, 3, 16]), (4, [0, 1, 3])]
theorem shd_run_Run_1_ok (a0 a1 : Value) (u : FrameMode) (w : World) (R : Ending → FrameMode → World → Prop)
    (h : shd_run_Run_1 (fun v w => R (.returned v) (recU u).2 w) (fun c w => R (.panicked c) (recU u).2 w) a0 a1 (recU u).1 w) : CallsD pr n_run_Run_1 #[a0, a1] u w R :=
  callsD_of_W (A := lvd_run_Run_1) enters mixed Go.Proofs.Tryz.func48 (by kernel_rfl) (by kernel_rfl) (by kernel_rfl) (by kernel_rfl) (by kernel_rfl) (by kernel_rfl)
    (Eq.mp (by kernel_rfl) h)

end Go.Inv
/- Second readings of bodies. (Written by a program of ours; the kernel checks each.) -/
set_option maxRecDepth 100000
set_option linter.unusedVariables false
set_option linter.defProp false
namespace Go.Inv
open Go.Sh
theorem pl33 : plainT pr 33 = true := by kernel_rfl
theorem pl74 : plainT pr 74 = true := by kernel_rfl
theorem ag78 : aggT pr 78 = some 1 := by kernel_rfl
theorem ag96 : aggT pr 96 = some 9 := by kernel_rfl
theorem ag136 : aggT pr 136 = some 3 := by kernel_rfl
theorem pl139 : plainT pr 139 = true := by kernel_rfl
theorem fo28_0 : fieldOff pr 28 0 = some 0 := by kernel_rfl
theorem fo28_1 : fieldOff pr 28 1 = some 1 := by kernel_rfl
theorem fo78_0 : fieldOff pr 78 0 = some 0 := by kernel_rfl
theorem fo80_0 : fieldOff pr 80 0 = some 0 := by kernel_rfl
theorem fo80_1 : fieldOff pr 80 1 = some 1 := by kernel_rfl
theorem fo96_0 : fieldOff pr 96 0 = some 0 := by kernel_rfl
theorem fo96_1 : fieldOff pr 96 1 = some 1 := by kernel_rfl
theorem il22 : isSl pr 22 = true := by kernel_rfl
theorem il26 : isSl pr 26 = true := by kernel_rfl
theorem il232 : isSl pr 232 = true := by kernel_rfl
theorem so9 : solid pr 9 = true := by kernel_rfl
theorem so76 : solid pr 76 = true := by kernel_rfl
theorem so82 : solid pr 82 = true := by kernel_rfl
def RT2 := (And.intro (And.intro (And.intro (And.intro (And.intro (And.intro (rLoad pl3) (raLoad pl3)) (And.intro (rkLoad pl3) (And.intro (rStore pl3) (rLoad pl26)))) (And.intro (And.intro (raLoad pl26) (rkLoad pl26)) (And.intro (rStore pl26) (And.intro (rLoad pl30) (raLoad pl30))))) (And.intro (And.intro (And.intro (rkLoad pl30) (rStore pl30)) (And.intro (rLoad pl33) (And.intro (raLoad pl33) (rkLoad pl33)))) (And.intro (And.intro (rStore pl33) (rLoad pl40)) (And.intro (raLoad pl40) (And.intro (rkLoad pl40) (rStore pl40)))))) (And.intro (And.intro (And.intro (And.intro (rLoad pl74) (raLoad pl74)) (And.intro (rkLoad pl74) (And.intro (rStore pl74) (rLoad pl139)))) (And.intro (And.intro (raLoad pl139) (rkLoad pl139)) (And.intro (rStore pl139) (And.intro (rLoadA ag28) (raLoadA ag28))))) (And.intro (And.intro (And.intro (rkLoadA ag28) (rStoreA ag28)) (And.intro (rLoadA ag78) (And.intro (raLoadA ag78) (rkLoadA ag78)))) (And.intro (And.intro (rStoreA ag78) (rLoadA ag96)) (And.intro (raLoadA ag96) (And.intro (rkLoadA ag96) (rStoreA ag96))))))) (And.intro (And.intro (And.intro (And.intro (And.intro (rLoadA ag136) (raLoadA ag136)) (And.intro (rkLoadA ag136) (And.intro (rStoreA ag136) (rFA fo28_0)))) (And.intro (And.intro (rzFA fo28_0) (rFA fo28_1)) (And.intro (rzFA fo28_1) (And.intro (rFA fo78_0) (rzFA fo78_0))))) (And.intro (And.intro (And.intro (rFA fo80_0) (rzFA fo80_0)) (And.intro (rFA fo80_1) (And.intro (rzFA fo80_1) (rFA fo96_0)))) (And.intro (And.intro (rzFA fo96_0) (rFA fo96_1)) (And.intro (rzFA fo96_1) (And.intro (rLenL il22) (rzLenL il22)))))) (And.intro (And.intro (And.intro (And.intro (rLenL il26) (rzLenL il26)) (And.intro (rLenL il232) (And.intro (rzLenL il232) (rIface so9)))) (And.intro (And.intro (rzIface so9) (rIface so33)) (And.intro (rzIface so33) (And.intro (rIface so76) (rzIface so76))))) (And.intro (And.intro (And.intro (rIface so82) (rzIface so82)) (And.intro (rConv ik3 ik3) (And.intro (rzConv ik3 ik3) (rConv ik3 ik40)))) (And.intro (And.intro (rzConv ik3 ik40) (rConv ik40 ik3)) (And.intro (rzConv ik40 ik3) (And.intro (rConv ik40 ik40) (rzConv ik40 ik40))))))))
/- invariants/invariants.Run -/
def sh_inv_Run (K : Value → World → Prop) (E : PanicK) (a0 a1 a2 : Value) (w : World) : Prop :=
 o pr E w (sAlloc 28) fun t6 w =>
 cl pr E w n_text_Read #[a0] fun t12 w =>
 o pr E w (sExt t12 0) fun t13 w =>
 o pr E w (sExt t12 1) fun t14 w =>
 o pr E w (sBinC .neq 30 t14 (Value.nilIface) 30) fun t16 w =>
 condP t16 (o pr E w (sBuild 28 []) fun t17 w =>
 o pr E w (sStore 28 t6 t17) fun _ w =>
 rs pr w t6 28 fun v0_0 =>
 K (.tuple #[v0_0, t14]) w)
  ((fun (k4 : Value → World → Prop) =>
 o pr E w (sBinC .lss 3 a2 (Value.int IntKind.i64 0) 3) fun t20 w =>
 condG t20 false (o pr E w (sBinC .gtr 3 a2 (Value.int IntKind.i64 500) 3) fun t23 w =>
 o pr E w (sPick t20 (Value.bool true) t23) fun t24_1 w =>
 k4 t24_1 w)
  (o pr E w (sPick t20 (Value.bool true) undef) fun t24_2 w =>
 k4 t24_2 w))
 (fun t24 w =>
 condP t24 (o pr E w (sBuild 28 []) fun t25 w =>
 o pr E w (sIface 33 (Value.int IntKind.i64 4)) fun t26 w =>
 o pr E w (sStore 28 t6 t25) fun _ w =>
 rs pr w t6 28 fun v0_1 =>
 K (.tuple #[v0_1, t26]) w)
  (cl pr E w n_run_Run #[t13, a1, a2] fun t30 w =>
 o pr E w (sStore 28 t6 t30) fun _ w =>
 rs pr w t6 28 fun v0_2 =>
 K (.tuple #[v0_2, (Value.nilIface)]) w)))
def lv_inv_Run : Lives := [(1, [0, 1, 2, 6]), (2, [1, 2, 6, 8, 9]), (3, [1, 2, 6, 8, 9, 16]), (4, [1, 2, 6, 8]), (5, [1, 2, 6, 8, 24]), (6, [1, 2, 6, 8])]
theorem sh_inv_Run_ok (a0 a1 a2 : Value) (w : World) (R : Ending → World → Prop)
    (h : sh_inv_Run (fun v w => R (.returned v) w) (fun c w => R (.panicked c) w) a0 a1 a2 w) : Calls pr n_inv_Run #[a0, a1, a2] w R :=
  calls_of_W (A := lv_inv_Run) enters mixed Go.Proofs.Tryz.func14 (by kernel_rfl) (by kernel_rfl) (by kernel_rfl)
    (Eq.mp (by kernel_rfl) h)

/- invariants/api.Tell -/
def sh_api_Tell (K : Value → World → Prop) (E : PanicK) (a0 : Value) (w : World) : Prop :=
 o pr E w (sAlloc 74) fun t4 w =>
 o pr E w (sAlloc 33) fun t5 w =>
 o pr E w (sBinC .eql 30 a0 (Value.nilIface) 30) fun t8 w =>
 condP t8 (K (.tuple #[(Value.int IntKind.i64 0), (Value.int IntKind.i64 0)]) w)
  (o pr E w (sIface 76 t4) fun t11 w =>
 cl pr E w n_errors_As #[a0, t11] fun t12 w =>
 condP t12 ((fun w =>
 oa pr w (sLoad 74 t4) fun t13 =>
 oz pr (sNil t13) fun t14 =>
 oz pr (sFA 80 t14 1) fun t15 =>
 oa pr w (sLoad 33 t15) fun t16 =>
 oa pr w (sLoad 74 t4) fun t17 =>
 oz pr (sNil t17) fun t18 =>
 oz pr (sFA 80 t18 0) fun t19 =>
 oa pr w (sLoad 78 t19) fun t20 =>
 cl pr E w n_api_Place_Where #[t20] fun t21 w =>
 rk pr w (sLoad 33 t15) t16 ∧
 rk pr w (sLoad 74 t4) t13 ∧
 K (.tuple #[t16, t21]) w) (dr w))
  (o pr E w (sIface 82 t5) fun t24 w =>
 cl pr E w n_errors_As #[a0, t24] fun t25 w =>
 condP t25 (o pr E w (sLoad 33 t5) fun t26 w =>
 K (.tuple #[t26, (Value.int IntKind.i64 0)]) w)
  (K (.tuple #[(Value.int IntKind.i64 (-1)), (Value.int IntKind.i64 0)]) w)))
def lv_api_Tell : Lives := [(1, [0]), (2, [0, 4]), (3, [0, 4, 5]), (4, [0, 4, 5, 6]), (6, [0, 4, 5, 9]), (8, [5, 22]), (9, [])]
theorem sh_api_Tell_ok (a0 : Value) (w : World) (R : Ending → World → Prop)
    (h : sh_api_Tell (fun v w => R (.returned v) w) (fun c w => R (.panicked c) w) a0 w) : Calls pr n_api_Tell #[a0] w R :=
  calls_of_W (A := lv_api_Tell) enters mixed Go.Proofs.Tryz.func15 (by kernel_rfl) (by kernel_rfl) (by kernel_rfl)
    (Eq.mp (by kernel_rfl) h)

/- errors.As -/
def sh_errors_As (K : Value → World → Prop) (E : PanicK) (a0 a1 : Value) (w : World) : Prop :=
 ∃ j1 : List Value → World → Prop, (∀ (e1 : Nat → Value) w, j1 [] w →
 o pr E w (sCall (Fu n_internal_reflectlite_ValueOf) [a1]) fun t14 w =>
 o pr E w (sAlloc 136) fun t5 w =>
 o pr E w (sStore 136 t5 t14) fun _ w =>
 ∃ j2 : List Value → World → Prop, (∀ (e2 : Nat → Value) w, j2 [e2 6] w →
 ∃ j3 : List Value → World → Prop, (∀ (e3 : Nat → Value) w, j3 [e3 7] w →
 o pr E w (sLoad 136 t5) fun t39 w =>
 cl pr E w n_errors_as #[a0, a1, t39, (e3 7)] fun t41 w =>
 K t41 w) ∧
 o pr E w (sInvoke (e2 6) "Elem" []) fun t26 w =>
 (fun (k10 : Value → World → Prop) =>
 o pr E w (sInvoke t26 "Kind" []) fun t28 w =>
 o pr E w (sBinC .neq 141 t28 (Value.int IntKind.u8 20) 141) fun t29 w =>
 condG t29 true (o pr E w (sLoad 139 (G 0)) fun t32 w =>
 o pr E w (sInvoke t26 "Implements" [t32]) fun t33 w =>
 o pr E w (sUn .not 4 t33) fun t34 w =>
 o pr E w (sPick t29 t34 (Value.bool false)) fun t35_1 w =>
 k10 t35_1 w)
  (o pr E w (sPick t29 undef (Value.bool false)) fun t35_2 w =>
 k10 t35_2 w))
 (fun t35 w =>
 condP t35 (o pr E w (sIface 9 (Value.string (S [101, 114, 114, 111, 114, 115, 58, 32, 42, 116, 97, 114, 103, 101, 116, 32, 109, 117, 115, 116, 32, 98, 101, 32, 105, 110, 116, 101, 114, 102, 97, 99, 101, 32, 111, 114, 32, 105, 109, 112, 108, 101, 109, 101, 110, 116, 32, 101, 114, 114, 111, 114]))) fun t36 w =>
 o pr E w (sPanic t36) fun _ w =>
 j3 [t26] w)
  (j3 [t26] w))) ∧
 o pr E w (sLoad 136 t5) fun t15 w =>
 o pr E w (sCall (Fu n_internal_reflectlite_Value_Type) [t15]) fun t16 w =>
 (fun (k7 : Value → World → Prop) =>
 o pr E w (sInvoke t16 "Kind" []) fun t18 w =>
 o pr E w (sBinC .neq 141 t18 (Value.int IntKind.u8 22) 141) fun t19 w =>
 condG t19 false (o pr E w (sLoad 136 t5) fun t21 w =>
 o pr E w (sCall (Fu n_internal_reflectlite_Value_IsNil) [t21]) fun t22 w =>
 o pr E w (sPick t19 (Value.bool true) t22) fun t23_1 w =>
 k7 t23_1 w)
  (o pr E w (sPick t19 (Value.bool true) undef) fun t23_2 w =>
 k7 t23_2 w))
 (fun t23 w =>
 condP t23 (o pr E w (sIface 9 (Value.string (S [101, 114, 114, 111, 114, 115, 58, 32, 116, 97, 114, 103, 101, 116, 32, 109, 117, 115, 116, 32, 98, 101, 32, 97, 32, 110, 111, 110, 45, 110, 105, 108, 32, 112, 111, 105, 110, 116, 101, 114]))) fun t24 w =>
 o pr E w (sPanic t24) fun _ w =>
 j2 [t16] w)
  (j2 [t16] w))) ∧
 o pr E w (sBinC .eql 30 a0 (Value.nilIface) 30) fun t9 w =>
 condP t9 (K (Value.bool false) w)
  (o pr E w (sBinC .eql 20 a1 (Value.nilIface) 20) fun t11 w =>
 condP t11 (o pr E w (sIface 9 (Value.string (S [101, 114, 114, 111, 114, 115, 58, 32, 116, 97, 114, 103, 101, 116, 32, 99, 97, 110, 110, 111, 116, 32, 98, 101, 32, 110, 105, 108]))) fun t12 w =>
 o pr E w (sPanic t12) fun _ w =>
 j1 [] w)
  (j1 [] w))
def lv_errors_As : Lives := [(1, [0, 1]), (2, [0, 1, 9]), (3, [0, 1]), (4, [0, 1, 11]), (5, [0, 1]), (6, [0, 1, 5]), (7, [0, 1, 5, 6]), (8, [0, 1, 5, 6, 23]), (9, [0, 1, 5, 6]), (10, [0, 1, 5, 7]), (11, [0, 1, 5, 7, 35]), (12, [0, 1, 5, 7])]
theorem sh_errors_As_ok (a0 a1 : Value) (w : World) (R : Ending → World → Prop)
    (h : sh_errors_As (fun v w => R (.returned v) w) (fun c w => R (.panicked c) w) a0 a1 w) : Calls pr n_errors_As #[a0, a1] w R :=
  calls_of_W (A := lv_errors_As) enters mixed Go.Proofs.Tryz.func34 (by kernel_rfl) (by kernel_rfl) (by kernel_rfl)
    (Eq.mp (by kernel_rfl) h)

/- errors.as -/
def sh_errors_as (K : Value → World → Prop) (E : PanicK) (a0 a1 a2 a3 : Value) (w : World) : Prop :=
 o pr E w (sBox 136 a2) fun t6 w =>
 ∃ (I1 : List Value → World → Prop) (m1 : List Value → World → Nat), I1 [a0] w ∧
 ∀ (e1 : Nat → Value) w1, I1 [e1 0] w1 → (fun w =>
 o pr E w (sCall (Fu n_internal_reflectlite_TypeOf) [(e1 0)]) fun t17 w =>
 o pr E w (sInvoke t17 "AssignableTo" [a3]) fun t19 w =>
 condP t19 (o pr E w (sLoad 136 t6) fun t20 w =>
 o pr E w (sCall (Fu n_internal_reflectlite_Value_Elem) [t20]) fun t21 w =>
 o pr E w (sCall (Fu n_internal_reflectlite_ValueOf) [(e1 0)]) fun t23 w =>
 o pr E w (sCall (Fu n_internal_reflectlite_Value_Set) [t21, t23]) fun _ w =>
 K (Value.bool true) w)
  (o pr E w (sAssert (e1 0) 30 226 true) fun t27 w =>
 o pr E w (sExt t27 0) fun t28 w =>
 o pr E w (sExt t27 1) fun t29 w =>
 (fun (k5 : Value → World → Prop) =>
 condG t29 true (o pr E w (sInvoke t28 "As" [a1]) fun t34 w =>
 o pr E w (sPick t29 t34 (Value.bool false)) fun t35_1 w =>
 k5 t35_1 w)
  (o pr E w (sPick t29 undef (Value.bool false)) fun t35_2 w =>
 k5 t35_2 w))
 (fun t35 w =>
 condP t35 (K (Value.bool true) w)
  (o pr E w (sAssert (e1 0) 30 229 true) fun t37 w =>
 o pr E w (sExt t37 1) fun t38 w =>
 o pr E w (sExt t37 0) fun t39 w =>
 condP t38 (o pr E w (sInvoke t39 "Unwrap" []) fun t41 w =>
 o pr E w (sBinC .eql 30 t41 (Value.nilIface) 30) fun t43 w =>
 condP t43 (K (Value.bool false) w)
  (I1 [t41] w ∧ m1 [t41] w < m1 [e1 0] w1))
  (o pr E w (sAssert (e1 0) 30 231 true) fun t44 w =>
 o pr E w (sExt t44 1) fun t45 w =>
 o pr E w (sExt t44 0) fun t46 w =>
 condP t45 (o pr E w (sInvoke t46 "Unwrap" []) fun t48 w =>
 o pr E w (sB .len [232] 3 [t48]) fun t49 w =>
 ∃ (I2 : List Value → World → Prop) (m2 : List Value → World → Nat), I2 [(Value.int IntKind.i64 0)] w ∧
 ∀ (e2 : Nat → Value) w2, I2 [e2 50] w2 → (fun w =>
 o pr E w (sBin .lss 3 (e2 50) t49 3) fun t51 w =>
 ∃ j3 : List Value → World → Prop, (∀ (e3 : Nat → Value) w, j3 [] w →
 o pr E w (sBinC .add 3 (e2 50) (Value.int IntKind.i64 1) 3) fun t61 w =>
 I2 [t61] w ∧ m2 [t61] w < m2 [e2 50] w2) ∧
 condP t51 (o pr E w (sIA 232 t48 (e2 50)) fun t52 w =>
 o pr E w (sLoad 30 t52) fun t53 w =>
 o pr E w (sBinC .eql 30 t53 (Value.nilIface) 30) fun t55 w =>
 condP t55 (j3 [] w)
  (o pr E w (sLoad 136 t6) fun t58 w =>
 cl pr E w n_errors_as #[t53, a1, t58, a3] fun t60 w =>
 condP t60 (K (Value.bool true) w)
  (j3 [] w)))
  (K (Value.bool false) w)) w2)
  (K (Value.bool false) w)))))) w1
def lv_errors_as : Lives := [(1, [0, 1, 3, 6]), (2, [0, 1, 3, 6, 19]), (3, []), (4, [0, 1, 3, 6]), (5, [0, 1, 3, 6, 9, 10]), (6, [0, 1, 3, 6, 35]), (7, [0, 1, 3, 6]), (9, []), (10, [1, 3, 6, 36]), (11, [1, 3, 6, 36, 38, 39]), (12, [1, 3, 6, 11]), (13, [0, 1, 3, 6]), (14, [0, 1, 3, 6, 43]), (16, [1, 3, 6, 36, 45, 46]), (17, [1, 3, 6, 12]), (18, [1, 3, 6, 48, 49, 50]), (19, [1, 3, 6, 48, 49, 50, 51]), (20, [1, 3, 6, 14, 48, 49, 50]), (21, [1, 3, 6, 14, 48, 49, 50]), (22, [1, 3, 6, 48, 49, 50, 60]), (23, [1, 3, 6, 48, 49, 50]), (24, [])]
theorem sh_errors_as_ok (a0 a1 a2 a3 : Value) (w : World) (R : Ending → World → Prop)
    (h : sh_errors_as (fun v w => R (.returned v) w) (fun c w => R (.panicked c) w) a0 a1 a2 a3 w) : Calls pr n_errors_as #[a0, a1, a2, a3] w R :=
  calls_of_W (A := lv_errors_as) enters mixed Go.Proofs.Tryz.func54 (by kernel_rfl) (by kernel_rfl) (by kernel_rfl)
    (Eq.mp (by kernel_rfl) h)

/- invariants/invariantslaw.num -/
def sh_law_num (K : Value → World → Prop) (_E : PanicK) (a0 : Value) (w : World) : Prop :=
 K a0 w
def lv_law_num : Lives := [(1, [0])]
theorem sh_law_num_ok (a0 : Value) (w : World) (R : Ending → World → Prop)
    (h : sh_law_num (fun v w => R (.returned v) w) (fun c w => R (.panicked c) w) a0 w) : Calls pr n_law_num #[a0] w R :=
  calls_of_W (A := lv_law_num) enters mixed Go.Proofs.Tryz.func18 (by kernel_rfl) (by kernel_rfl) (by kernel_rfl)
    (Eq.mp (by kernel_rfl) h)

/- invariants/invariantslaw.inputs -/
def sh_law_inputs (K : Value → World → Prop) (E : PanicK) (a0 : Value) (w : World) : Prop :=
 ∃ (I1 : List Value → World → Prop) (m1 : List Value → World → Nat), I1 [(Value.slice none 0 0), (Value.slice none 0 0), (Value.int IntKind.i64 0)] w ∧
 ∀ (e1 : Nat → Value) w1, I1 [e1 4, e1 5, e1 6] w1 → (fun w =>
 o pr E w (sB .len [22] 3 [a0]) fun t9 w =>
 o pr E w (sBin .lss 3 (e1 6) t9 3) fun t10 w =>
 condP t10 (o pr E w (sIA 22 a0 (e1 6)) fun t16 w =>
 o pr E w (sLoad 3 t16) fun t17 w =>
 o pr E w (sConv 3 40 t17) fun t18 w =>
 o pr E w (sBuildSlice 23 1 [(0, t18)]) fun t19 w =>
 o pr E w (sB .append [23, 23] 23 [(e1 4), t19]) fun t20 w =>
 o pr E w (sIA 22 a0 (e1 6)) fun t24 w =>
 o pr E w (sLoad 3 t24) fun t25 w =>
 o pr E w (sConv 3 40 t25) fun t26 w =>
 o pr E w (sConv 40 3 t26) fun t27 w =>
 o pr E w (sBuildSlice 22 1 [(0, t27)]) fun t28 w =>
 o pr E w (sB .append [22, 22] 22 [(e1 5), t28]) fun t29 w =>
 o pr E w (sBinC .add 3 (e1 6) (Value.int IntKind.i64 1) 3) fun t12 w =>
 I1 [t20, t29, t12] w ∧ m1 [t20, t29, t12] w < m1 [e1 4, e1 5, e1 6] w1)
  (K (.tuple #[(e1 4), (e1 5)]) w)) w1
def lv_law_inputs : Lives := [(1, [0]), (2, [0, 4]), (3, [0, 4, 5]), (4, [0, 4, 5, 6]), (5, [0, 4, 5, 6]), (6, [0, 4, 5, 6]), (7, [0, 4, 5, 6]), (8, [4, 5])]
theorem sh_law_inputs_ok (a0 : Value) (w : World) (R : Ending → World → Prop)
    (h : sh_law_inputs (fun v w => R (.returned v) w) (fun c w => R (.panicked c) w) a0 w) : Calls pr n_law_inputs #[a0] w R :=
  calls_of_W (A := lv_law_inputs) enters mixed Go.Proofs.Tryz.func13 (by kernel_rfl) (by kernel_rfl) (by kernel_rfl)
    (Eq.mp (by kernel_rfl) h)

/- invariants/invariantslaw.sameTraces -/
def sh_law_sameTraces (K : Value → World → Prop) (E : PanicK) (a0 a1 : Value) (w : World) : Prop :=
 o pr E w (sBox 28 a0) fun t2 w =>
 o pr E w (sBox 28 a1) fun t3 w =>
 (fun (k1 : Value → World → Prop) =>
 o pr E w (sFA 28 t2 0) fun t6 w =>
 o pr E w (sLoad 26 t6) fun t7 w =>
 o pr E w (sB .len [26] 3 [t7]) fun t8 w =>
 o pr E w (sFA 28 t3 0) fun t9 w =>
 o pr E w (sLoad 26 t9) fun t10 w =>
 o pr E w (sB .len [26] 3 [t10]) fun t11 w =>
 o pr E w (sBin .neq 3 t8 t11 3) fun t12 w =>
 condG t12 false (o pr E w (sFA 28 t2 1) fun t14 w =>
 o pr E w (sLoad 3 t14) fun t15 w =>
 o pr E w (sFA 28 t3 1) fun t16 w =>
 o pr E w (sLoad 3 t16) fun t17 w =>
 o pr E w (sBin .neq 3 t15 t17 3) fun t18 w =>
 o pr E w (sPick t12 (Value.bool true) t18) fun t19_1 w =>
 k1 t19_1 w)
  (o pr E w (sPick t12 (Value.bool true) undef) fun t19_2 w =>
 k1 t19_2 w))
 (fun t19 w =>
 condP t19 (K (Value.bool false) w)
  (∃ (I1 : List Value → World → Prop) (m1 : List Value → World → Nat), I1 [(Value.int IntKind.i64 0)] w ∧
 ∀ (e1 : Nat → Value) w1, I1 [e1 5] w1 → (fun w =>
 o pr E w (sFA 28 t2 0) fun t21 w =>
 o pr E w (sLoad 26 t21) fun t22 w =>
 o pr E w (sB .len [26] 3 [t22]) fun t23 w =>
 o pr E w (sBin .lss 3 (e1 5) t23 3) fun t24 w =>
 condP t24 ((fun w =>
 oz pr (sFA 28 t2 0) fun t27 =>
 oa pr w (sLoad 26 t27) fun t28 =>
 oz pr (sIA 26 t28 (e1 5)) fun t30 =>
 oa pr w (sLoad 96 t30) fun t31 =>
 oz pr (sFA 28 t3 0) fun t32 =>
 oa pr w (sLoad 26 t32) fun t33 =>
 oz pr (sIA 26 t33 (e1 5)) fun t35 =>
 oa pr w (sLoad 96 t35) fun t36 =>
 oz pr (sBin .neq 96 t31 t36 96) fun t37 =>
 condP t37 (K (Value.bool false) w)
  (o pr E w (sBinC .add 3 (e1 5) (Value.int IntKind.i64 1) 3) fun t26 w =>
 I1 [t26] w ∧ m1 [t26] w < m1 [e1 5] w1)) (dr w))
  (K (Value.bool true) w)) w1))
def lv_law_sameTraces : Lives := [(1, [2, 3]), (2, [2, 3, 19]), (3, [2, 3]), (4, [2, 3, 5]), (5, [2, 3, 5]), (6, [2, 3, 5]), (7, [2, 3, 5, 37]), (8, [])]
theorem sh_law_sameTraces_ok (a0 a1 : Value) (w : World) (R : Ending → World → Prop)
    (h : sh_law_sameTraces (fun v w => R (.returned v) w) (fun c w => R (.panicked c) w) a0 a1 w) : Calls pr n_law_sameTraces #[a0, a1] w R :=
  calls_of_W (A := lv_law_sameTraces) enters mixed Go.Proofs.Tryz.func31 (by kernel_rfl) (by kernel_rfl) (by kernel_rfl)
    (Eq.mp (by kernel_rfl) h)

/- invariants/invariantslaw.runs -/
def sh_law_runs (K : Value → World → Prop) (E : PanicK) (w : World) : Prop :=
 o pr E w (sBuildSlice 23 1 [(0, (Value.int IntKind.i16 2))]) fun t6 w =>
 cl pr E w n_inv_Run #[(Value.string (S [114, 101, 97, 100, 32, 97, 59, 32, 98, 32, 61, 32, 54, 32, 47, 32, 97, 59])), t6, (Value.int IntKind.i64 9)] fun t7 w =>
 o pr E w (sExt t7 0) fun t8 w =>
 o pr E w (sExt t7 1) fun t9 w =>
 o pr E w (sAlloc 28) fun t1 w =>
 o pr E w (sStore 28 t1 t8) fun _ w =>
 cl pr E w n_api_Tell #[t9] fun t12 w =>
 o pr E w (sExt t12 0) fun t13 w =>
 o pr E w (sExt t12 1) fun _ w =>
 (fun (k3 : Value → World → Prop) =>
 cl pr E w n_law_num #[t13] fun t16 w =>
 o pr E w (sBinC .eql 3 t16 (Value.int IntKind.i64 0) 3) fun t17 w =>
 condG t17 true (o pr E w (sFA 28 t1 1) fun t19 w =>
 o pr E w (sLoad 3 t19) fun t20 w =>
 o pr E w (sBinC .eql 3 t20 (Value.int IntKind.i64 (-1)) 3) fun t21 w =>
 o pr E w (sPick t17 t21 (Value.bool false)) fun t22 w =>
 condG t22 true (o pr E w (sFA 28 t1 0) fun t24 w =>
 o pr E w (sLoad 26 t24) fun t25 w =>
 o pr E w (sB .len [26] 3 [t25]) fun t26 w =>
 o pr E w (sBinC .eql 3 t26 (Value.int IntKind.i64 3) 3) fun t27 w =>
 o pr E w (sPick t22 t27 (Value.bool false)) fun t28 w =>
 condG t28 true (o pr E w (sFA 28 t1 0) fun t30 w =>
 o pr E w (sLoad 26 t30) fun t31 w =>
 o pr E w (sIA 26 t31 (Value.int IntKind.i64 2)) fun t32 w =>
 o pr E w (sFA 96 t32 0) fun t33 w =>
 o pr E w (sLoad 3 t33) fun t34 w =>
 o pr E w (sBinC .eql 3 t34 (Value.int IntKind.i64 2) 3) fun t35 w =>
 o pr E w (sPick t28 t35 (Value.bool false)) fun t36 w =>
 condG t36 true (o pr E w (sFA 28 t1 0) fun t38 w =>
 o pr E w (sLoad 26 t38) fun t39 w =>
 o pr E w (sIA 26 t39 (Value.int IntKind.i64 2)) fun t40 w =>
 o pr E w (sFA 96 t40 1) fun t41 w =>
 o pr E w (sIA 94 t41 (Value.int IntKind.i64 1)) fun t42 w =>
 o pr E w (sLoad 40 t42) fun t43 w =>
 o pr E w (sBinC .eql 40 t43 (Value.int IntKind.i16 3) 40) fun t44 w =>
 o pr E w (sPick t36 t44 (Value.bool false)) fun t45 w =>
 k3 t45 w)
  (o pr E w (sPick t36 undef (Value.bool false)) fun t45_1 w =>
 k3 t45_1 w))
  (o pr E w (sPick t28 undef (Value.bool false)) fun t36_1 w =>
 condG t36_1 true (o pr E w (sFA 28 t1 0) fun t38_1 w =>
 o pr E w (sLoad 26 t38_1) fun t39_1 w =>
 o pr E w (sIA 26 t39_1 (Value.int IntKind.i64 2)) fun t40_1 w =>
 o pr E w (sFA 96 t40_1 1) fun t41_1 w =>
 o pr E w (sIA 94 t41_1 (Value.int IntKind.i64 1)) fun t42_1 w =>
 o pr E w (sLoad 40 t42_1) fun t43_1 w =>
 o pr E w (sBinC .eql 40 t43_1 (Value.int IntKind.i16 3) 40) fun t44_1 w =>
 o pr E w (sPick t36_1 t44_1 (Value.bool false)) fun t45_2 w =>
 k3 t45_2 w)
  (o pr E w (sPick t36_1 undef (Value.bool false)) fun t45_3 w =>
 k3 t45_3 w)))
  (o pr E w (sPick t22 undef (Value.bool false)) fun t28_1 w =>
 condG t28_1 true (o pr E w (sFA 28 t1 0) fun t30_1 w =>
 o pr E w (sLoad 26 t30_1) fun t31_1 w =>
 o pr E w (sIA 26 t31_1 (Value.int IntKind.i64 2)) fun t32_1 w =>
 o pr E w (sFA 96 t32_1 0) fun t33_1 w =>
 o pr E w (sLoad 3 t33_1) fun t34_1 w =>
 o pr E w (sBinC .eql 3 t34_1 (Value.int IntKind.i64 2) 3) fun t35_1 w =>
 o pr E w (sPick t28_1 t35_1 (Value.bool false)) fun t36_2 w =>
 condG t36_2 true (o pr E w (sFA 28 t1 0) fun t38_2 w =>
 o pr E w (sLoad 26 t38_2) fun t39_2 w =>
 o pr E w (sIA 26 t39_2 (Value.int IntKind.i64 2)) fun t40_2 w =>
 o pr E w (sFA 96 t40_2 1) fun t41_2 w =>
 o pr E w (sIA 94 t41_2 (Value.int IntKind.i64 1)) fun t42_2 w =>
 o pr E w (sLoad 40 t42_2) fun t43_2 w =>
 o pr E w (sBinC .eql 40 t43_2 (Value.int IntKind.i16 3) 40) fun t44_2 w =>
 o pr E w (sPick t36_2 t44_2 (Value.bool false)) fun t45_4 w =>
 k3 t45_4 w)
  (o pr E w (sPick t36_2 undef (Value.bool false)) fun t45_5 w =>
 k3 t45_5 w))
  (o pr E w (sPick t28_1 undef (Value.bool false)) fun t36_3 w =>
 condG t36_3 true (o pr E w (sFA 28 t1 0) fun t38_3 w =>
 o pr E w (sLoad 26 t38_3) fun t39_3 w =>
 o pr E w (sIA 26 t39_3 (Value.int IntKind.i64 2)) fun t40_3 w =>
 o pr E w (sFA 96 t40_3 1) fun t41_3 w =>
 o pr E w (sIA 94 t41_3 (Value.int IntKind.i64 1)) fun t42_3 w =>
 o pr E w (sLoad 40 t42_3) fun t43_3 w =>
 o pr E w (sBinC .eql 40 t43_3 (Value.int IntKind.i16 3) 40) fun t44_3 w =>
 o pr E w (sPick t36_3 t44_3 (Value.bool false)) fun t45_6 w =>
 k3 t45_6 w)
  (o pr E w (sPick t36_3 undef (Value.bool false)) fun t45_7 w =>
 k3 t45_7 w))))
  (o pr E w (sPick t17 undef (Value.bool false)) fun t22_1 w =>
 condG t22_1 true (o pr E w (sFA 28 t1 0) fun t24_1 w =>
 o pr E w (sLoad 26 t24_1) fun t25_1 w =>
 o pr E w (sB .len [26] 3 [t25_1]) fun t26_1 w =>
 o pr E w (sBinC .eql 3 t26_1 (Value.int IntKind.i64 3) 3) fun t27_1 w =>
 o pr E w (sPick t22_1 t27_1 (Value.bool false)) fun t28_2 w =>
 condG t28_2 true (o pr E w (sFA 28 t1 0) fun t30_2 w =>
 o pr E w (sLoad 26 t30_2) fun t31_2 w =>
 o pr E w (sIA 26 t31_2 (Value.int IntKind.i64 2)) fun t32_2 w =>
 o pr E w (sFA 96 t32_2 0) fun t33_2 w =>
 o pr E w (sLoad 3 t33_2) fun t34_2 w =>
 o pr E w (sBinC .eql 3 t34_2 (Value.int IntKind.i64 2) 3) fun t35_2 w =>
 o pr E w (sPick t28_2 t35_2 (Value.bool false)) fun t36_4 w =>
 condG t36_4 true (o pr E w (sFA 28 t1 0) fun t38_4 w =>
 o pr E w (sLoad 26 t38_4) fun t39_4 w =>
 o pr E w (sIA 26 t39_4 (Value.int IntKind.i64 2)) fun t40_4 w =>
 o pr E w (sFA 96 t40_4 1) fun t41_4 w =>
 o pr E w (sIA 94 t41_4 (Value.int IntKind.i64 1)) fun t42_4 w =>
 o pr E w (sLoad 40 t42_4) fun t43_4 w =>
 o pr E w (sBinC .eql 40 t43_4 (Value.int IntKind.i16 3) 40) fun t44_4 w =>
 o pr E w (sPick t36_4 t44_4 (Value.bool false)) fun t45_8 w =>
 k3 t45_8 w)
  (o pr E w (sPick t36_4 undef (Value.bool false)) fun t45_9 w =>
 k3 t45_9 w))
  (o pr E w (sPick t28_2 undef (Value.bool false)) fun t36_5 w =>
 condG t36_5 true (o pr E w (sFA 28 t1 0) fun t38_5 w =>
 o pr E w (sLoad 26 t38_5) fun t39_5 w =>
 o pr E w (sIA 26 t39_5 (Value.int IntKind.i64 2)) fun t40_5 w =>
 o pr E w (sFA 96 t40_5 1) fun t41_5 w =>
 o pr E w (sIA 94 t41_5 (Value.int IntKind.i64 1)) fun t42_5 w =>
 o pr E w (sLoad 40 t42_5) fun t43_5 w =>
 o pr E w (sBinC .eql 40 t43_5 (Value.int IntKind.i16 3) 40) fun t44_5 w =>
 o pr E w (sPick t36_5 t44_5 (Value.bool false)) fun t45_10 w =>
 k3 t45_10 w)
  (o pr E w (sPick t36_5 undef (Value.bool false)) fun t45_11 w =>
 k3 t45_11 w)))
  (o pr E w (sPick t22_1 undef (Value.bool false)) fun t28_3 w =>
 condG t28_3 true (o pr E w (sFA 28 t1 0) fun t30_3 w =>
 o pr E w (sLoad 26 t30_3) fun t31_3 w =>
 o pr E w (sIA 26 t31_3 (Value.int IntKind.i64 2)) fun t32_3 w =>
 o pr E w (sFA 96 t32_3 0) fun t33_3 w =>
 o pr E w (sLoad 3 t33_3) fun t34_3 w =>
 o pr E w (sBinC .eql 3 t34_3 (Value.int IntKind.i64 2) 3) fun t35_3 w =>
 o pr E w (sPick t28_3 t35_3 (Value.bool false)) fun t36_6 w =>
 condG t36_6 true (o pr E w (sFA 28 t1 0) fun t38_6 w =>
 o pr E w (sLoad 26 t38_6) fun t39_6 w =>
 o pr E w (sIA 26 t39_6 (Value.int IntKind.i64 2)) fun t40_6 w =>
 o pr E w (sFA 96 t40_6 1) fun t41_6 w =>
 o pr E w (sIA 94 t41_6 (Value.int IntKind.i64 1)) fun t42_6 w =>
 o pr E w (sLoad 40 t42_6) fun t43_6 w =>
 o pr E w (sBinC .eql 40 t43_6 (Value.int IntKind.i16 3) 40) fun t44_6 w =>
 o pr E w (sPick t36_6 t44_6 (Value.bool false)) fun t45_12 w =>
 k3 t45_12 w)
  (o pr E w (sPick t36_6 undef (Value.bool false)) fun t45_13 w =>
 k3 t45_13 w))
  (o pr E w (sPick t28_3 undef (Value.bool false)) fun t36_7 w =>
 condG t36_7 true (o pr E w (sFA 28 t1 0) fun t38_7 w =>
 o pr E w (sLoad 26 t38_7) fun t39_7 w =>
 o pr E w (sIA 26 t39_7 (Value.int IntKind.i64 2)) fun t40_7 w =>
 o pr E w (sFA 96 t40_7 1) fun t41_7 w =>
 o pr E w (sIA 94 t41_7 (Value.int IntKind.i64 1)) fun t42_7 w =>
 o pr E w (sLoad 40 t42_7) fun t43_7 w =>
 o pr E w (sBinC .eql 40 t43_7 (Value.int IntKind.i16 3) 40) fun t44_7 w =>
 o pr E w (sPick t36_7 t44_7 (Value.bool false)) fun t45_14 w =>
 k3 t45_14 w)
  (o pr E w (sPick t36_7 undef (Value.bool false)) fun t45_15 w =>
 k3 t45_15 w)))))
 (fun t0 w =>
 K t0 w)
def lv_law_runs : Lives := [(1, []), (2, [1, 2]), (3, [1, 3])]
theorem sh_law_runs_ok (w : World) (R : Ending → World → Prop)
    (h : sh_law_runs (fun v w => R (.returned v) w) (fun c w => R (.panicked c) w)  w) : Calls pr n_law_runs #[] w R :=
  calls_of_W (A := lv_law_runs) enters mixed Go.Proofs.Tryz.func30 (by kernel_rfl) (by kernel_rfl) (by kernel_rfl)
    (Eq.mp (by kernel_rfl) h)

/- (invariants/api.Place).Where -/
def sh_api_Place_Where (K : Value → World → Prop) (E : PanicK) (a0 : Value) (w : World) : Prop :=
 o pr E w (sBox 78 a0) fun t1 w =>
 o pr E w (sFA 78 t1 0) fun t3 w =>
 o pr E w (sLoad 3 t3) fun t4 w =>
 K t4 w
def lv_api_Place_Where : Lives := [(1, [1])]
theorem sh_api_Place_Where_ok (a0 : Value) (w : World) (R : Ending → World → Prop)
    (h : sh_api_Place_Where (fun v w => R (.returned v) w) (fun c w => R (.panicked c) w) a0 w) : Calls pr n_api_Place_Where #[a0] w R :=
  calls_of_W (A := lv_api_Place_Where) enters mixed Go.Proofs.Tryz.func35 (by kernel_rfl) (by kernel_rfl) (by kernel_rfl)
    (Eq.mp (by kernel_rfl) h)

end Go.Inv
/- Second readings of bodies. (Written by a program of ours; the kernel checks each.) -/
set_option maxRecDepth 100000
set_option linter.unusedVariables false
set_option linter.defProp false
namespace Go.Inv
open Go.Sh
theorem pl168 : plainT pr 168 = true := by kernel_rfl
theorem pl169 : plainT pr 169 = true := by kernel_rfl
theorem fo171_0 : fieldOff pr 171 0 = some 0 := by kernel_rfl
theorem fo171_1 : fieldOff pr 171 1 = some 1 := by kernel_rfl
theorem fo173_1 : fieldOff pr 173 1 = some 2 := by kernel_rfl
theorem il169 : isSl pr 169 = true := by kernel_rfl
def RT3 := (And.intro (And.intro (And.intro (And.intro (And.intro (And.intro (rLoad pl3) (raLoad pl3)) (And.intro (rkLoad pl3) (And.intro (rStore pl3) (rLoad pl4)))) (And.intro (And.intro (raLoad pl4) (rkLoad pl4)) (And.intro (rStore pl4) (And.intro (rLoad pl5) (raLoad pl5))))) (And.intro (And.intro (And.intro (rkLoad pl5) (rStore pl5)) (And.intro (rLoad pl119) (And.intro (raLoad pl119) (rkLoad pl119)))) (And.intro (And.intro (rStore pl119) (rLoad pl168)) (And.intro (raLoad pl168) (And.intro (rkLoad pl168) (rStore pl168)))))) (And.intro (And.intro (And.intro (And.intro (rLoad pl169) (raLoad pl169)) (And.intro (rkLoad pl169) (And.intro (rStore pl169) (rLoad pl195)))) (And.intro (And.intro (raLoad pl195) (rkLoad pl195)) (And.intro (rStore pl195) (And.intro (rLoad pl198) (raLoad pl198))))) (And.intro (And.intro (And.intro (rkLoad pl198) (rStore pl198)) (And.intro (rLoadA ag211) (And.intro (raLoadA ag211) (rkLoadA ag211)))) (And.intro (And.intro (rStoreA ag211) (rFA fo121_0)) (And.intro (rzFA fo121_0) (And.intro (rFA fo171_0) (rzFA fo171_0))))))) (And.intro (And.intro (And.intro (And.intro (And.intro (rFA fo171_1) (rzFA fo171_1)) (And.intro (rFA fo173_0) (And.intro (rzFA fo173_0) (rFA fo173_1)))) (And.intro (And.intro (rzFA fo173_1) (rFA fo200_1)) (And.intro (rzFA fo200_1) (And.intro (rFA fo200_2) (rzFA fo200_2))))) (And.intro (And.intro (And.intro (rFA fo206_1) (rzFA fo206_1)) (And.intro (rFA fo213_1) (And.intro (rzFA fo213_1) (rFA fo216_1)))) (And.intro (And.intro (rzFA fo216_1) (rFA fo216_2)) (And.intro (rzFA fo216_2) (And.intro (rFA fo216_3) (rzFA fo216_3)))))) (And.intro (And.intro (And.intro (And.intro (rFA fo216_4) (rzFA fo216_4)) (And.intro (rFA fo219_1) (And.intro (rzFA fo219_1) (rFA fo219_2)))) (And.intro (And.intro (rzFA fo219_2) (rFA fo283_0)) (And.intro (rzFA fo283_0) (And.intro (rIdxS is9) (rzIdxS is9))))) (And.intro (And.intro (And.intro (rLenS is9) (rzLenS is9)) (And.intro (rCut is9) (And.intro (rzCut is9) (rCutL is9)))) (And.intro (And.intro (rzCutL is9) (rLenL il119)) (And.intro (rzLenL il119) (And.intro (rLenL il169) (rzLenL il169))))))))
/- (*strings.Builder).String -/
def sh_strings_Builder_String (K : Value → World → Prop) (E : PanicK) (a0 : Value) (w : World) : Prop :=
 (fun w =>
 oz pr (sNil a0) fun t4 =>
 oz pr (sFA 171 t4 1) fun t5 =>
 oa pr w (sLoad 169 t5) fun t6 =>
 oz pr (sNil a0) fun t9 =>
 oz pr (sFA 171 t9 1) fun t10 =>
 oa pr w (sLoad 169 t10) fun t11 =>
 oz pr (sB .len [169] 3 [t11]) fun t12 =>
 o pr E w (sB .unsafeSliceData [169] 260 [t6]) fun t7 w =>
 rk pr w (sLoad 169 t10) t11 ∧
 o pr E w (sB .unsafeString [260, 3] 9 [t7, t12]) fun t13 w =>
 K t13 w) (dr w)
def lv_strings_Builder_String : Lives := [(1, [0])]
theorem sh_strings_Builder_String_ok (a0 : Value) (w : World) (R : Ending → World → Prop)
    (h : sh_strings_Builder_String (fun v w => R (.returned v) w) (fun c w => R (.panicked c) w) a0 w) : Calls pr n_strings_Builder_String #[a0] w R :=
  calls_of_W (A := lv_strings_Builder_String) enters mixed Go.Proofs.Tryz.func63 (by kernel_rfl) (by kernel_rfl) (by kernel_rfl)
    (Eq.mp (by kernel_rfl) h)

/- (*strings.Builder).WriteString -/
def sh_strings_Builder_WriteString (K : Value → World → Prop) (E : PanicK) (a0 a1 : Value) (w : World) : Prop :=
 cl pr E w n_strings_Builder_copyCheck #[a0] fun _ w =>
 o pr E w (sNil a0) fun t10 w =>
 o pr E w (sFA 171 t10 1) fun t11 w =>
 o pr E w (sLoad 169 t11) fun t12 w =>
 o pr E w (sB .append [169, 9] 169 [t12, a1]) fun t14 w =>
 o pr E w (sNil a0) fun t15 w =>
 o pr E w (sFA 171 t15 1) fun t16 w =>
 o pr E w (sStore 169 t16 t14) fun _ w =>
 o pr E w (sB .len [9] 3 [a1]) fun t18 w =>
 K (.tuple #[t18, (Value.nilIface)]) w
def lv_strings_Builder_WriteString : Lives := [(1, [0, 1]), (2, [0, 1]), (3, [1])]
theorem sh_strings_Builder_WriteString_ok (a0 a1 : Value) (w : World) (R : Ending → World → Prop)
    (h : sh_strings_Builder_WriteString (fun v w => R (.returned v) w) (fun c w => R (.panicked c) w) a0 a1 w) : Calls pr n_strings_Builder_WriteString #[a0, a1] w R :=
  calls_of_W (A := lv_strings_Builder_WriteString) enters mixed Go.Proofs.Tryz.func137 (by kernel_rfl) (by kernel_rfl) (by kernel_rfl)
    (Eq.mp (by kernel_rfl) h)

/- (*strings.Builder).WriteByte -/
def sh_strings_Builder_WriteByte (K : Value → World → Prop) (E : PanicK) (a0 a1 : Value) (w : World) : Prop :=
 cl pr E w n_strings_Builder_copyCheck #[a0] fun _ w =>
 o pr E w (sNil a0) fun t9 w =>
 o pr E w (sFA 171 t9 1) fun t10 w =>
 o pr E w (sLoad 169 t10) fun t11 w =>
 o pr E w (sBuildSlice 169 1 [(0, a1)]) fun t13 w =>
 o pr E w (sB .append [169, 169] 169 [t11, t13]) fun t14 w =>
 o pr E w (sNil a0) fun t15 w =>
 o pr E w (sFA 171 t15 1) fun t16 w =>
 o pr E w (sStore 169 t16 t14) fun _ w =>
 K (Value.nilIface) w
def lv_strings_Builder_WriteByte : Lives := [(1, [0, 1]), (2, [0, 1]), (3, [])]
theorem sh_strings_Builder_WriteByte_ok (a0 a1 : Value) (w : World) (R : Ending → World → Prop)
    (h : sh_strings_Builder_WriteByte (fun v w => R (.returned v) w) (fun c w => R (.panicked c) w) a0 a1 w) : Calls pr n_strings_Builder_WriteByte #[a0, a1] w R :=
  calls_of_W (A := lv_strings_Builder_WriteByte) enters mixed Go.Proofs.Tryz.func139 (by kernel_rfl) (by kernel_rfl) (by kernel_rfl)
    (Eq.mp (by kernel_rfl) h)

/- (*strings.Builder).copyCheck -/
def sh_strings_Builder_copyCheck (K : Value → World → Prop) (E : PanicK) (a0 : Value) (w : World) : Prop :=
 o pr E w (sNil a0) fun t3 w =>
 o pr E w (sFA 171 t3 0) fun t4 w =>
 o pr E w (sLoad 168 t4) fun t5 w =>
 o pr E w (sBinC .eql 168 t5 (Value.pointer none) 168) fun t6 w =>
 condP t6 (o pr E w (sConv 168 133 a0) fun t9 w =>
 o pr E w (sCall (Fu n_internal_abi_NoEscape) [t9]) fun t10 w =>
 o pr E w (sConv 133 168 t10) fun t11 w =>
 o pr E w (sNil a0) fun t12 w =>
 o pr E w (sFA 171 t12 0) fun t13 w =>
 o pr E w (sStore 168 t13 t11) fun _ w =>
 K (.tuple #[]) w)
  (o pr E w (sNil a0) fun t15 w =>
 o pr E w (sFA 171 t15 0) fun t16 w =>
 o pr E w (sLoad 168 t16) fun t17 w =>
 o pr E w (sBin .neq 168 t17 a0 168) fun t19 w =>
 condP t19 (False)
  (K (.tuple #[]) w))
def lv_strings_Builder_copyCheck : Lives := [(1, [0, 6])]
theorem sh_strings_Builder_copyCheck_ok (a0 : Value) (w : World) (R : Ending → World → Prop)
    (h : sh_strings_Builder_copyCheck (fun v w => R (.returned v) w) (fun c w => R (.panicked c) w) a0 w) : Calls pr n_strings_Builder_copyCheck #[a0] w R :=
  calls_of_W (A := lv_strings_Builder_copyCheck) enters mixed Go.Proofs.Tryz.func166 (by kernel_rfl) (by kernel_rfl) (by kernel_rfl)
    (Eq.mp (by kernel_rfl) h)

/- invariants/text.Write -/
def sh_text_Write (K : Value → World → Prop) (E : PanicK) (a0 : Value) (w : World) : Prop :=
 o pr E w (sBuild 173 []) fun t4 w =>
 o pr E w (sBox 173 t4) fun t5 w =>
 o pr E w (sNil a0) fun t8 w =>
 o pr E w (sFA 121 t8 0) fun t9 w =>
 o pr E w (sLoad 119 t9) fun t10 w =>
 cl pr E w n_text_writer_list #[t5, t10] fun _ w =>
 o pr E w (sNil t5) fun t13 w =>
 o pr E w (sFA 173 t13 0) fun t14 w =>
 cl pr E w n_strings_Builder_String #[t14] fun t15 w =>
 K t15 w
def lv_text_Write : Lives := [(1, [0]), (2, [0, 3]), (3, [3])]
theorem sh_text_Write_ok (a0 : Value) (w : World) (R : Ending → World → Prop)
    (h : sh_text_Write (fun v w => R (.returned v) w) (fun c w => R (.panicked c) w) a0 w) : Calls pr n_text_Write #[a0] w R :=
  calls_of_W (A := lv_text_Write) enters mixed Go.Proofs.Tryz.func40 (by kernel_rfl) (by kernel_rfl) (by kernel_rfl)
    (Eq.mp (by kernel_rfl) h)

/- (*invariants/text.writer).list -/
def sh_text_writer_list (K : Value → World → Prop) (E : PanicK) (a0 a1 : Value) (w : World) : Prop :=
 o pr E w (sB .len [119] 3 [a1]) fun t12 w =>
 ∃ (I1 : List Value → World → Prop) (m1 : List Value → World → Nat), I1 [(Value.int IntKind.i64 0)] w ∧
 ∀ (e1 : Nat → Value) w1, I1 [e1 13] w1 → (fun w =>
 o pr E w (sBin .lss 3 (e1 13) t12 3) fun t14 w =>
 ∃ j2 : List Value → World → Prop, (∀ (e2 : Nat → Value) w, j2 [] w →
 o pr E w (sBinC .add 3 (e1 13) (Value.int IntKind.i64 1) 3) fun t112 w =>
 I1 [t112] w ∧ m1 [t112] w < m1 [e1 13] w1) ∧
 condP t14 (o pr E w (sIA 119 a1 (e1 13)) fun t15 w =>
 o pr E w (sLoad 195 t15) fun t16 w =>
 o pr E w (sAssert t16 195 196 true) fun t18 w =>
 o pr E w (sExt t18 1) fun t19 w =>
 o pr E w (sExt t18 0) fun t20 w =>
 condP t19 ((fun w =>
 oz pr (sNil t20) fun t23 =>
 oz pr (sFA 200 t23 1) fun t24 =>
 oa pr w (sLoad 3 t24) fun t25 =>
 oz pr (sNil t20) fun t29 =>
 oz pr (sFA 200 t29 2) fun t30 =>
 oa pr w (sLoad 198 t30) fun t31 =>
 cl pr E w n_text_name #[t25] fun t26 w =>
 rk pr w (sLoad 198 t30) t31 ∧
 oz pr (sBinC .add 9 t26 (Value.string (S [32, 61, 32])) 9) fun t27 =>
 cl pr E w n_text_sum #[t31, (Value.int IntKind.i64 1)] fun t32 w =>
 oz pr (sBin .add 9 t27 t32 9) fun t33 =>
 oz pr (sBinC .add 9 t33 (Value.string (S [59])) 9) fun t34 =>
 cl pr E w n_text_writer_line #[a0, t34] fun _ w =>
 j2 [] w) (dr w))
  (o pr E w (sAssert t16 195 204 true) fun t36 w =>
 o pr E w (sExt t36 1) fun t37 w =>
 o pr E w (sExt t36 0) fun t38 w =>
 condP t37 (o pr E w (sNil t38) fun t41 w =>
 o pr E w (sFA 206 t41 1) fun t42 w =>
 o pr E w (sLoad 3 t42) fun t43 w =>
 cl pr E w n_text_name #[t43] fun t44 w =>
 o pr E w (sBinL .add 9 (Value.string (S [114, 101, 97, 100, 32])) t44 9) fun t45 w =>
 o pr E w (sBinC .add 9 t45 (Value.string (S [59])) 9) fun t46 w =>
 cl pr E w n_text_writer_line #[a0, t46] fun _ w =>
 j2 [] w)
  (o pr E w (sAssert t16 195 207 true) fun t48 w =>
 o pr E w (sExt t48 1) fun t49 w =>
 o pr E w (sExt t48 0) fun t50 w =>
 condP t49 (o pr E w (sNil t50) fun t53 w =>
 o pr E w (sFA 213 t53 1) fun t54 w =>
 o pr E w (sLoad 211 t54) fun t55 w =>
 cl pr E w n_text_cond #[t55] fun t56 w =>
 o pr E w (sBinL .add 9 (Value.string (S [97, 115, 115, 101, 114, 116, 32])) t56 9) fun t57 w =>
 o pr E w (sBinC .add 9 t57 (Value.string (S [59])) 9) fun t58 w =>
 cl pr E w n_text_writer_line #[a0, t58] fun _ w =>
 j2 [] w)
  (o pr E w (sAssert t16 195 214 true) fun t60 w =>
 o pr E w (sExt t60 1) fun t61 w =>
 o pr E w (sExt t60 0) fun t62 w =>
 condP t61 (o pr E w (sNil t62) fun t65 w =>
 o pr E w (sFA 216 t65 1) fun t66 w =>
 o pr E w (sLoad 211 t66) fun t67 w =>
 cl pr E w n_text_cond #[t67] fun t68 w =>
 o pr E w (sBinL .add 9 (Value.string (S [105, 102, 32])) t68 9) fun t69 w =>
 o pr E w (sBinC .add 9 t69 (Value.string (S [32, 123])) 9) fun t70 w =>
 cl pr E w n_text_writer_line #[a0, t70] fun _ w =>
 ∃ j3 : List Value → World → Prop, (∀ (e3 : Nat → Value) w, j3 [] w →
 cl pr E w n_text_writer_line #[a0, (Value.string (S [125]))] fun _ w =>
 j2 [] w) ∧
 o pr E w (sNil t62) fun t74 w =>
 o pr E w (sFA 216 t74 2) fun t75 w =>
 o pr E w (sLoad 119 t75) fun t76 w =>
 cl pr E w n_text_writer_block #[a0, t76] fun _ w =>
 o pr E w (sNil t62) fun t79 w =>
 o pr E w (sFA 216 t79 4) fun t80 w =>
 o pr E w (sLoad 4 t80) fun t81 w =>
 condP t81 (cl pr E w n_text_writer_line #[a0, (Value.string (S [125, 32, 101, 108, 115, 101, 32, 123]))] fun _ w =>
 o pr E w (sNil t62) fun t86 w =>
 o pr E w (sFA 216 t86 3) fun t87 w =>
 o pr E w (sLoad 119 t87) fun t88 w =>
 cl pr E w n_text_writer_block #[a0, t88] fun _ w =>
 j3 [] w)
  (j3 [] w))
  (o pr E w (sAssert t16 195 217 true) fun t92 w =>
 o pr E w (sExt t92 1) fun t93 w =>
 o pr E w (sExt t92 0) fun t94 w =>
 condP t93 (o pr E w (sNil t94) fun t97 w =>
 o pr E w (sFA 219 t97 1) fun t98 w =>
 o pr E w (sLoad 211 t98) fun t99 w =>
 cl pr E w n_text_cond #[t99] fun t100 w =>
 o pr E w (sBinL .add 9 (Value.string (S [119, 104, 105, 108, 101, 32])) t100 9) fun t101 w =>
 o pr E w (sBinC .add 9 t101 (Value.string (S [32, 123])) 9) fun t102 w =>
 cl pr E w n_text_writer_line #[a0, t102] fun _ w =>
 o pr E w (sNil t94) fun t106 w =>
 o pr E w (sFA 219 t106 2) fun t107 w =>
 o pr E w (sLoad 119 t107) fun t108 w =>
 cl pr E w n_text_writer_block #[a0, t108] fun _ w =>
 cl pr E w n_text_writer_line #[a0, (Value.string (S [125]))] fun _ w =>
 j2 [] w)
  (j2 [] w))))))
  (K (.tuple #[]) w)) w1
def lv_text_writer_list : Lives := [(1, [0, 11, 12, 13]), (2, [0, 11, 12, 13, 14]), (3, [0, 5, 11, 12, 13]), (4, [0, 11, 12, 13, 17]), (5, [0, 11, 12, 13, 17, 19, 20]), (6, [0, 6, 11, 12, 13]), (8, [0, 11, 12, 13, 17, 37, 38]), (9, [0, 7, 11, 12, 13]), (11, [0, 11, 12, 13, 17, 49, 50]), (12, [0, 8, 11, 12, 13]), (14, [0, 11, 12, 13, 17, 61, 62]), (15, [0, 9, 11, 12, 13]), (16, [0, 9, 11, 12, 13]), (17, [0, 9, 11, 12, 13]), (18, [0, 9, 11, 12, 13, 81]), (19, [0, 9, 11, 12, 13]), (20, [0, 11, 12, 13]), (22, [0, 11, 12, 13, 93, 94]), (23, [0, 10, 11, 12, 13]), (24, [0, 10, 11, 12, 13]), (25, [0, 11, 12, 13]), (26, [0, 11, 12, 13])]
theorem sh_text_writer_list_ok (a0 a1 : Value) (w : World) (R : Ending → World → Prop)
    (h : sh_text_writer_list (fun v w => R (.returned v) w) (fun c w => R (.panicked c) w) a0 a1 w) : Calls pr n_text_writer_list #[a0, a1] w R :=
  calls_of_W (A := lv_text_writer_list) enters mixed Go.Proofs.Tryz.func62 (by kernel_rfl) (by kernel_rfl) (by kernel_rfl)
    (Eq.mp (by kernel_rfl) h)

/- (*invariants/text.writer).line -/
def sh_text_writer_line (K : Value → World → Prop) (E : PanicK) (a0 a1 : Value) (w : World) : Prop :=
 (fun w =>
 oz pr (sNil a0) fun t5 =>
 oz pr (sFA 173 t5 0) fun t6 =>
 oz pr (sNil a0) fun t8 =>
 oz pr (sFA 173 t8 1) fun t9 =>
 oa pr w (sLoad 3 t9) fun t10 =>
 cl pr E w n_strings_Repeat #[(Value.string (S [32, 32])), t10] fun t11 w =>
 cl pr E w n_strings_Builder_WriteString #[t6, t11] fun _ w =>
 o pr E w (sNil a0) fun t14 w =>
 o pr E w (sFA 173 t14 0) fun t15 w =>
 cl pr E w n_strings_Builder_WriteString #[t15, a1] fun _ w =>
 o pr E w (sNil a0) fun t19 w =>
 o pr E w (sFA 173 t19 0) fun t20 w =>
 cl pr E w n_strings_Builder_WriteByte #[t20, (Value.int IntKind.u8 10)] fun _ w =>
 K (.tuple #[]) w) (dr w)
def lv_text_writer_line : Lives := [(1, [0, 1]), (2, [0])]
theorem sh_text_writer_line_ok (a0 a1 : Value) (w : World) (R : Ending → World → Prop)
    (h : sh_text_writer_line (fun v w => R (.returned v) w) (fun c w => R (.panicked c) w) a0 a1 w) : Calls pr n_text_writer_line #[a0, a1] w R :=
  calls_of_W (A := lv_text_writer_line) enters mixed Go.Proofs.Tryz.func96 (by kernel_rfl) (by kernel_rfl) (by kernel_rfl)
    (Eq.mp (by kernel_rfl) h)

/- (*invariants/text.writer).block -/
def sh_text_writer_block (K : Value → World → Prop) (E : PanicK) (a0 a1 : Value) (w : World) : Prop :=
 o pr E w (sNil a0) fun t5 w =>
 o pr E w (sFA 173 t5 1) fun t6 w =>
 o pr E w (sLoad 3 t6) fun t7 w =>
 o pr E w (sBinC .add 3 t7 (Value.int IntKind.i64 1) 3) fun t8 w =>
 o pr E w (sNil a0) fun t9 w =>
 o pr E w (sFA 173 t9 1) fun t10 w =>
 o pr E w (sStore 3 t10 t8) fun _ w =>
 cl pr E w n_text_writer_list #[a0, a1] fun _ w =>
 o pr E w (sNil a0) fun t15 w =>
 o pr E w (sFA 173 t15 1) fun t16 w =>
 o pr E w (sLoad 3 t16) fun t17 w =>
 o pr E w (sBinC .sub 3 t17 (Value.int IntKind.i64 1) 3) fun t18 w =>
 o pr E w (sNil a0) fun t19 w =>
 o pr E w (sFA 173 t19 1) fun t20 w =>
 o pr E w (sStore 3 t20 t18) fun _ w =>
 K (.tuple #[]) w
def lv_text_writer_block : Lives := [(1, [0, 1]), (2, [0])]
theorem sh_text_writer_block_ok (a0 a1 : Value) (w : World) (R : Ending → World → Prop)
    (h : sh_text_writer_block (fun v w => R (.returned v) w) (fun c w => R (.panicked c) w) a0 a1 w) : Calls pr n_text_writer_block #[a0, a1] w R :=
  calls_of_W (A := lv_text_writer_block) enters mixed Go.Proofs.Tryz.func100 (by kernel_rfl) (by kernel_rfl) (by kernel_rfl)
    (Eq.mp (by kernel_rfl) h)

/- invariants/tree.Rank -/
def sh_tree_Rank (K : Value → World → Prop) (E : PanicK) (a0 : Value) (w : World) : Prop :=
 o pr E w (sInvoke a0 "invariants/tree.rank" []) fun t4 w =>
 K t4 w
def lv_tree_Rank : Lives := [(1, [0])]
theorem sh_tree_Rank_ok (a0 : Value) (w : World) (R : Ending → World → Prop)
    (h : sh_tree_Rank (fun v w => R (.returned v) w) (fun c w => R (.panicked c) w) a0 w) : Calls pr n_tree_Rank #[a0] w R :=
  calls_of_W (A := lv_tree_Rank) enters mixed Go.Proofs.Tryz.func141 (by kernel_rfl) (by kernel_rfl) (by kernel_rfl)
    (Eq.mp (by kernel_rfl) h)

/- (*invariants/tree.Number).rank -/
def sh_tree_Number_rank (K : Value → World → Prop) (_E : PanicK) (_a0 : Value) (w : World) : Prop :=
 K (Value.int IntKind.i64 3) w
def lv_tree_Number_rank : Lives := [(1, [])]
theorem sh_tree_Number_rank_ok (a0 : Value) (w : World) (R : Ending → World → Prop)
    (h : sh_tree_Number_rank (fun v w => R (.returned v) w) (fun c w => R (.panicked c) w) a0 w) : Calls pr n_tree_Number_rank #[a0] w R :=
  calls_of_W (A := lv_tree_Number_rank) enters mixed Go.Proofs.Tryz.func276 (by kernel_rfl) (by kernel_rfl) (by kernel_rfl)
    (Eq.mp (by kernel_rfl) h)

/- (*invariants/tree.Name).rank -/
def sh_tree_Name_rank (K : Value → World → Prop) (_E : PanicK) (_a0 : Value) (w : World) : Prop :=
 K (Value.int IntKind.i64 3) w
def lv_tree_Name_rank : Lives := [(1, [])]
theorem sh_tree_Name_rank_ok (a0 : Value) (w : World) (R : Ending → World → Prop)
    (h : sh_tree_Name_rank (fun v w => R (.returned v) w) (fun c w => R (.panicked c) w) a0 w) : Calls pr n_tree_Name_rank #[a0] w R :=
  calls_of_W (A := lv_tree_Name_rank) enters mixed Go.Proofs.Tryz.func277 (by kernel_rfl) (by kernel_rfl) (by kernel_rfl)
    (Eq.mp (by kernel_rfl) h)

/- (*invariants/tree.Minus).rank -/
def sh_tree_Minus_rank (K : Value → World → Prop) (_E : PanicK) (_a0 : Value) (w : World) : Prop :=
 K (Value.int IntKind.i64 3) w
def lv_tree_Minus_rank : Lives := [(1, [])]
theorem sh_tree_Minus_rank_ok (a0 : Value) (w : World) (R : Ending → World → Prop)
    (h : sh_tree_Minus_rank (fun v w => R (.returned v) w) (fun c w => R (.panicked c) w) a0 w) : Calls pr n_tree_Minus_rank #[a0] w R :=
  calls_of_W (A := lv_tree_Minus_rank) enters mixed Go.Proofs.Tryz.func278 (by kernel_rfl) (by kernel_rfl) (by kernel_rfl)
    (Eq.mp (by kernel_rfl) h)

/- (*invariants/tree.Two).rank -/
def sh_tree_Two_rank (K : Value → World → Prop) (E : PanicK) (a0 : Value) (w : World) : Prop :=
 (fun (k1 : Value → World → Prop) =>
 o pr E w (sNil a0) fun t4 w =>
 o pr E w (sFA 283 t4 0) fun t5 w =>
 o pr E w (sLoad 5 t5) fun t6 w =>
 o pr E w (sBinC .eql 5 t6 (Value.int IntKind.u8 43) 5) fun t7 w =>
 condG t7 false (o pr E w (sNil a0) fun t10 w =>
 o pr E w (sFA 283 t10 0) fun t11 w =>
 o pr E w (sLoad 5 t11) fun t12 w =>
 o pr E w (sBinC .eql 5 t12 (Value.int IntKind.u8 45) 5) fun t13 w =>
 o pr E w (sPick t7 (Value.bool true) t13) fun t14_1 w =>
 k1 t14_1 w)
  (o pr E w (sPick t7 (Value.bool true) undef) fun t14_2 w =>
 k1 t14_2 w))
 (fun t14 w =>
 condP t14 (K (Value.int IntKind.i64 1) w)
  (K (Value.int IntKind.i64 2) w))
def lv_tree_Two_rank : Lives := [(1, [0]), (2, [14]), (3, [])]
theorem sh_tree_Two_rank_ok (a0 : Value) (w : World) (R : Ending → World → Prop)
    (h : sh_tree_Two_rank (fun v w => R (.returned v) w) (fun c w => R (.panicked c) w) a0 w) : Calls pr n_tree_Two_rank #[a0] w R :=
  calls_of_W (A := lv_tree_Two_rank) enters mixed Go.Proofs.Tryz.func279 (by kernel_rfl) (by kernel_rfl) (by kernel_rfl)
    (Eq.mp (by kernel_rfl) h)

/- invariants/invariants.Print -/
def sh_inv_Print (K : Value → World → Prop) (E : PanicK) (a0 : Value) (w : World) : Prop :=
 cl pr E w n_text_Read #[a0] fun t8 w =>
 o pr E w (sExt t8 0) fun t9 w =>
 o pr E w (sExt t8 1) fun t10 w =>
 o pr E w (sBinC .neq 30 t10 (Value.nilIface) 30) fun t12 w =>
 condP t12 (K (.tuple #[(Value.string (S [])), t10]) w)
  (cl pr E w n_text_Write #[t9] fun t15 w =>
 K (.tuple #[t15, (Value.nilIface)]) w)
def lv_inv_Print : Lives := [(1, [0]), (2, [4, 5]), (3, [4, 5, 12]), (4, [4])]
theorem sh_inv_Print_ok (a0 : Value) (w : World) (R : Ending → World → Prop)
    (h : sh_inv_Print (fun v w => R (.returned v) w) (fun c w => R (.panicked c) w) a0 w) : Calls pr n_inv_Print #[a0] w R :=
  calls_of_W (A := lv_inv_Print) enters mixed Go.Proofs.Tryz.func24 (by kernel_rfl) (by kernel_rfl) (by kernel_rfl)
    (Eq.mp (by kernel_rfl) h)

end Go.Inv
/- Contracts of the library at this program: laid by the kit (its plain mode); the lines that we need. -/
namespace Go.Proofs
open Go.Shelf
def Tryz.laysM171_ren : Go.Shelf.Ren := ⟨fun | 171 => 140 | 243 => 171 | 246 => 194 | 283 => 199 | 284 => 200 | 285 => 201 | 286 => 202 | 129 => 204 | 317 => 203 | 318 => 205 | 319 => 206 | 320 => 207 | 337 => 208 | 338 => 209 | n => n, fun | 3 => 3 | 9 => 9 | 2 => 2 | 4 => 4 | 171 => 364 | 0 => 0 | 53 => 358 | 37 => 169 | 5 => 5 | 173 => 367 | 212 => 370 | 51 => 355 | 20 => 20 | 213 => 371 | 46 => 104 | 232 => 374 | 233 => 375 | n => n, fun | 17 => 3 | 18 => 4 | 19 => 5 | n => n⟩
theorem Tryz.laysM171 : Go.Proofs.LaysM.n171 Tryz.prog Tryz.laysM171_ren := {
  mixed := by kernel_rfl
  f129 := Tryz.func204.trans (congrArg some (by kernel_rfl))
  f171 := Tryz.func140.trans (congrArg some (by kernel_rfl))
  f243 := Tryz.func171.trans (congrArg some (by kernel_rfl))
  f246 := Tryz.func194.trans (congrArg some (by kernel_rfl))
  f283 := Tryz.func199.trans (congrArg some (by kernel_rfl))
  f284 := Tryz.func200.trans (congrArg some (by kernel_rfl))
  f285 := Tryz.func201.trans (congrArg some (by kernel_rfl))
  f286 := Tryz.func202.trans (congrArg some (by kernel_rfl))
  f317 := Tryz.func203.trans (congrArg some (by kernel_rfl))
  f318 := Tryz.func205.trans (congrArg some (by kernel_rfl))
  f319 := Tryz.func206.trans (congrArg some (by kernel_rfl))
  f320 := Tryz.func207.trans (congrArg some (by kernel_rfl))
  f337 := Tryz.func208.trans (congrArg some (by kernel_rfl))
  f338 := Tryz.func209.trans (congrArg some (by kernel_rfl))
  t0 := Tryz.underlying0
  a0 := Tryz.isAgg0
  z0 := Tryz.sizeOf0
  v0 := Tryz.zeroValue0
  t2 := Tryz.underlying2
  a2 := Tryz.isAgg2
  z2 := Tryz.sizeOf2
  v2 := Tryz.zeroValue2
  t3 := Tryz.underlying3
  a3 := Tryz.isAgg3
  z3 := Tryz.sizeOf3
  v3 := Tryz.zeroValue3
  t4 := Tryz.underlying4
  a4 := Tryz.isAgg4
  z4 := Tryz.sizeOf4
  v4 := Tryz.zeroValue4
  t5 := Tryz.underlying5
  a5 := Tryz.isAgg5
  z5 := Tryz.sizeOf5
  v5 := Tryz.zeroValue5
  t9 := Tryz.underlying9
  a9 := Tryz.isAgg9
  z9 := Tryz.sizeOf9
  v9 := Tryz.zeroValue9
  t20 := Tryz.underlying20
  a20 := Tryz.isAgg20
  z20 := Tryz.sizeOf20
  v20 := Tryz.zeroValue20
  t37 := Tryz.underlying169
  a37 := Tryz.isAgg169
  z37 := Tryz.sizeOf169
  v37 := Tryz.zeroValue169
  t46 := Tryz.underlying104
  a46 := Tryz.isAgg104
  z46 := Tryz.sizeOf104
  v46 := Tryz.zeroValue104
  t51 := Tryz.underlying355
  a51 := Tryz.isAgg355
  z51 := Tryz.sizeOf355
  v51 := Tryz.zeroValue355
  t53 := Tryz.underlying358
  a53 := Tryz.isAgg358
  z53 := Tryz.sizeOf358
  v53 := Tryz.zeroValue358
  t171 := Tryz.underlying364
  a171 := Tryz.isAgg364
  z171 := Tryz.sizeOf364
  v171 := Tryz.zeroValue364
  t173 := Tryz.underlying367
  a173 := Tryz.isAgg367
  z173 := Tryz.sizeOf367
  v173 := Tryz.zeroValue367
  t212 := Tryz.underlying370
  a212 := Tryz.isAgg370
  z212 := Tryz.sizeOf370
  v212 := Tryz.zeroValue370
  t213 := Tryz.underlying371
  a213 := Tryz.isAgg371
  z213 := Tryz.sizeOf371
  t232 := Tryz.underlying374
  a232 := Tryz.isAgg374
  z232 := Tryz.sizeOf374
  v232 := Tryz.zeroValue374
  t233 := Tryz.underlying375
  a233 := Tryz.isAgg375
  z233 := Tryz.sizeOf375
  v233 := Tryz.zeroValue375
  g17 := by kernel_rfl
  g18 := by kernel_rfl
  g19 := by kernel_rfl
  i0 := by kernel_rfl
  i2 := by kernel_rfl
  i3 := by kernel_rfl
  i4 := by kernel_rfl
  i5 := by kernel_rfl
  i9 := by kernel_rfl
  i20 := by kernel_rfl
  i37 := by kernel_rfl
  i46 := by kernel_rfl
  i51 := by kernel_rfl
  i53 := by kernel_rfl
  i171 := by kernel_rfl
  i173 := by kernel_rfl
  i212 := by kernel_rfl
  i232 := by kernel_rfl
  i233 := by kernel_rfl
  m17 := by kernel_rfl
  m18 := by kernel_rfl
  m19 := by kernel_rfl }
open Go.RowKit Go.Sort Go.Lib in
theorem Tryz.strconv_Itoa (n : Int) (h0 : -9223372036854775808 ≤ n) (h1 : n ≤ 9223372036854775807) (w : World) (htab : Lib.TabIs Tryz.prog w "internal/strconv.uint64pow10" .u64 Lib.pow10Tab) :
    Calls Tryz.prog 140 #[.int .i64 n] w fun e w' => e = .returned (.string ⟨(Lib.itoa n).toArray⟩) ∧ ∃ k os, w' = grow (w.drewN k) os := Any.strconv_Itoa Tryz.laysM171 n h0 h1 w htab
def Tryz.lays105_ren : Go.Shelf.Ren := ⟨fun | 105 => 138 | 212 => 167 | 99 => 168 | 165 => 169 | 166 => 137 | 170 => 170 | 169 => 63 | 263 => 190 | 264 => 191 | 206 => 192 | 240 => 166 | 241 => 193 | 276 => 189 | 277 => 198 | n => n, fun | 9 => 9 | 3 => 3 | 4 => 4 | 20 => 20 | 0 => 0 | 46 => 104 | 109 => 341 | 5 => 5 | 72 => 171 | 76 => 303 | 51 => 355 | 146 => 356 | 53 => 358 | 148 => 359 | 70 => 168 | 37 => 169 | 75 => 30 | 127 => 260 | 164 => 133 | 80 => 174 | n => n, fun | n => n⟩
theorem Tryz.lays105 : Go.Proofs.Lays.n105 Tryz.prog Tryz.lays105_ren := {
  mixed := by kernel_rfl
  f99 := Tryz.func168.trans (congrArg some (by kernel_rfl))
  f105 := Tryz.func138.trans (congrArg some (by kernel_rfl))
  f165 := Tryz.func169.trans (congrArg some (by kernel_rfl))
  f166 := Tryz.func137.trans (congrArg some (by kernel_rfl))
  f169 := Tryz.func63.trans (congrArg some (by kernel_rfl))
  f170 := Tryz.func170.trans (congrArg some (by kernel_rfl))
  f206 := Tryz.func192.trans (congrArg some (by kernel_rfl))
  f212 := Tryz.func167.trans (congrArg some (by kernel_rfl))
  f240 := Tryz.func166.trans (congrArg some (by kernel_rfl))
  f241 := Tryz.func193.trans (congrArg some (by kernel_rfl))
  f263 := Tryz.func190.trans (congrArg some (by kernel_rfl))
  f264 := Tryz.func191.trans (congrArg some (by kernel_rfl))
  f276 := Tryz.func189.trans (congrArg some (by kernel_rfl))
  f277 := Tryz.func198.trans (congrArg some (by kernel_rfl))
  t0 := Tryz.underlying0
  a0 := Tryz.isAgg0
  z0 := Tryz.sizeOf0
  v0 := Tryz.zeroValue0
  t3 := Tryz.underlying3
  a3 := Tryz.isAgg3
  z3 := Tryz.sizeOf3
  v3 := Tryz.zeroValue3
  t4 := Tryz.underlying4
  a4 := Tryz.isAgg4
  z4 := Tryz.sizeOf4
  v4 := Tryz.zeroValue4
  t5 := Tryz.underlying5
  a5 := Tryz.isAgg5
  z5 := Tryz.sizeOf5
  v5 := Tryz.zeroValue5
  t9 := Tryz.underlying9
  a9 := Tryz.isAgg9
  z9 := Tryz.sizeOf9
  v9 := Tryz.zeroValue9
  t20 := Tryz.underlying20
  a20 := Tryz.isAgg20
  z20 := Tryz.sizeOf20
  v20 := Tryz.zeroValue20
  t37 := Tryz.underlying169
  a37 := Tryz.isAgg169
  z37 := Tryz.sizeOf169
  v37 := Tryz.zeroValue169
  t46 := Tryz.underlying104
  a46 := Tryz.isAgg104
  z46 := Tryz.sizeOf104
  v46 := Tryz.zeroValue104
  t51 := Tryz.underlying355
  a51 := Tryz.isAgg355
  z51 := Tryz.sizeOf355
  v51 := Tryz.zeroValue355
  t53 := Tryz.underlying358
  a53 := Tryz.isAgg358
  z53 := Tryz.sizeOf358
  v53 := Tryz.zeroValue358
  t70 := Tryz.underlying168
  a70 := Tryz.isAgg168
  z70 := Tryz.sizeOf168
  v70 := Tryz.zeroValue168
  t72 := Tryz.underlying171
  a72 := Tryz.isAgg171
  z72 := Tryz.sizeOf171
  v72 := Tryz.zeroValue171
  t75 := Tryz.underlying30
  a75 := Tryz.isAgg30
  z75 := Tryz.sizeOf30
  v75 := Tryz.zeroValue30
  t76 := Tryz.underlying303
  a76 := Tryz.isAgg303
  z76 := Tryz.sizeOf303
  v76 := Tryz.zeroValue303
  t109 := Tryz.underlying341
  a109 := Tryz.isAgg341
  z109 := Tryz.sizeOf341
  v109 := Tryz.zeroValue341
  t127 := Tryz.underlying260
  a127 := Tryz.isAgg260
  z127 := Tryz.sizeOf260
  v127 := Tryz.zeroValue260
  t146 := Tryz.underlying356
  a146 := Tryz.isAgg356
  z146 := Tryz.sizeOf356
  v146 := Tryz.zeroValue356
  t148 := Tryz.underlying359
  a148 := Tryz.isAgg359
  z148 := Tryz.sizeOf359
  v148 := Tryz.zeroValue359
  t164 := Tryz.underlying133
  a164 := Tryz.isAgg133
  z164 := Tryz.sizeOf133
  v164 := Tryz.zeroValue133 }
theorem Tryz.Builder_Extra_105 : Builder.Extra Tryz.prog Tryz.lays105_ren := {
  sizeBuilder := by kernel_rfl
  liesBuilder := by kernel_rfl
  t5 := Tryz.underlying5
  a5 := Tryz.isAgg5
  z5 := Tryz.sizeOf5
  v5 := Tryz.zeroValue5
  infoByte := by kernel_rfl
  cellsByte := by kernel_rfl
  sizeByte := by kernel_rfl
  neB5 := by decide }
open Go.RowKit Go.Lib in
theorem Tryz.strings_Repeat (s : ByteArray) (c : Nat) (w : World) (hc : c ≤ 9223372036854775807) (hlen : s.size * c ≤ 140737488355328) :
    Calls Tryz.prog 138 #[.string s, .int .i64 c] w fun e w' => e = .returned (.string ⟨(Lib.repeatL s.data.toList c).toArray⟩) ∧ Below w.heap.size w w' := Any.strings_Repeat Tryz.lays105 Tryz.Builder_Extra_105 s c w hc hlen
end Go.Proofs
/- What the reader's functions do to memory: the words, and the small functions. -/
namespace Go.Inv
open Go.Sh

/-- It returns just that, and the world is just that. -/
def Is (v : Value) (w0 : World) : Ending → World → Prop := fun e w' => e = .returned v ∧ w' = w0

/-- Block b is these cells. -/
def Blk (w : World) (b : Nat) (cs : List Value) (t : Nat) : Prop := w.heap[b]? = some (.cells cs.toArray t (0, 0))

/-- Nothing is told to the outside. -/
structure Out (w w' : World) : Prop where
  os : w'.os = w.os
  output : w'.output = w.output
theorem Out.refl (w : World) : Out w w := ⟨rfl, rfl⟩
theorem Out.trans {a b c : World} (h : Out a b) (g : Out b c) : Out a c := ⟨g.os.trans h.os, g.output.trans h.output⟩
theorem Out.dr {a b : World} (h : Out a b) : Out a (dr b) := ⟨h.os, h.output⟩
theorem Out.alloc {a b : World} (h : Out a b) (x : Obj) : Out a (b.alloc x) := ⟨h.os, h.output⟩
theorem Out.put {a b : World} (h : Out a b) {k i : Nat} {v : Value} : Out a (Sh.put b k i v) := ⟨h.os, h.output⟩
theorem Out.grown {a b c : World} {row : Option Nat} (h : Out a b) (hg : b.grownBy c row) : Out a c := ⟨hg.os.trans h.os, hg.output.trans h.output⟩
/-- What a call of the reader leaves alone: all below B; of the rest all but the reader, the program and blocks of ints. -/
structure Fr (B r p : Nat) (w w' : World) : Prop where
  size : w.heap.size ≤ w'.heap.size
  old : ∀ c, c < B → w'.heap[c]? = w.heap[c]?
  keep : ∀ c cs t f, w.heap[c]? = some (.cells cs t f) → t ≠ tyInt → c ≠ r → c ≠ p → w'.heap[c]? = some (.cells cs t f)
  other : ∀ (c : Nat) (x : Obj), w.heap[c]? = some x → (∀ cs t f, x ≠ Obj.cells cs t f) → w'.heap[c]? = some x
  out : Out w w'

theorem setObj'_other {i : Nat} {v : Value} {x : Obj} (h : ∀ cs t f, x ≠ .cells cs t f) : setObj' i v x = x := by
  cases x <;> first | rfl | exact absurd rfl (h _ _ _)
theorem Fr.refl (B r p : Nat) (w : World) : Fr B r p w w := ⟨Nat.le_refl _, fun _ _ => rfl, fun _ _ _ _ h _ _ _ => h, fun _ _ h _ => h, .refl _⟩
theorem Fr.trans {B r p : Nat} {w1 w2 w3 : World} (h : Fr B r p w1 w2) (g : Fr B r p w2 w3) : Fr B r p w1 w3 :=
  ⟨Nat.le_trans h.size g.size, fun c hc => (g.old c hc).trans (h.old c hc), fun c cs t f h1 h2 h3 h4 => g.keep c cs t f (h.keep c cs t f h1 h2 h3 h4) h2 h3 h4, fun c x h1 h2 => g.other c x (h.other c x h1 h2) h2, h.out.trans g.out⟩
theorem Fr.dr {B r p : Nat} {w1 w2 : World} (h : Fr B r p w1 w2) : Fr B r p w1 (dr w2) := ⟨h.size, h.old, h.keep, h.other, h.out.dr⟩
theorem Fr.alloc {B r p : Nat} {w1 w2 : World} (h : Fr B r p w1 w2) (hB : B ≤ w1.heap.size) (x : Obj) : Fr B r p w1 (w2.alloc x) := by
  have hs := h.size
  refine ⟨by rw [size_alloc]; omega, fun c hc => ?_, fun c cs t f h1 h2 h3 h4 => ?_, fun c y h1 h2 => ?_, h.out.alloc _⟩
  · rw [heap_alloc_ne (by omega)]; exact h.old c hc
  · have := h.keep c cs t f h1 h2 h3 h4
    have hc : c < w2.heap.size := (Array.getElem?_eq_some_iff.1 this).1
    rw [heap_alloc_ne (by omega)]; exact this
  · have := h.other c y h1 h2
    have hc : c < w2.heap.size := (Array.getElem?_eq_some_iff.1 this).1
    rw [heap_alloc_ne (by omega)]; exact this
theorem Fr.put {B r p b i : Nat} {v : Value} {w1 w2 : World} (h : Fr B r p w1 w2) (hB : B ≤ b) (hb : b = r ∨ b = p ∨ w1.heap.size ≤ b) : Fr B r p w1 (put w2 b i v) := by
  refine ⟨by rw [size_put]; exact h.size, fun c hc => ?_, fun c cs t f h1 h2 h3 h4 => ?_, fun c y h1 h2 => ?_, h.out.put⟩
  · rw [heap_put_ne (by omega)]; exact h.old c hc
  · have hlt : c < w1.heap.size := (Array.getElem?_eq_some_iff.1 h1).1
    rw [heap_put_ne (by rcases hb with hb | hb | hb <;> omega)]
    exact h.keep c cs t f h1 h2 h3 h4
  · have := h.other c y h1 h2
    by_cases hc : c = b
    · subst hc; rw [heap_put_self, this, Option.map_some, setObj'_other h2]
    · rw [heap_put_ne hc]; exact this

/-- A slice of ints of the reader's own. -/
def NumsAt (B : Nat) (w : World) (v : Value) (l : List Nat) : Prop := w.ownsRow B tyInt 1 v l.length (l.map fun n : Nat => vi n)

/-- The table of relations. -/
def relsV : Array Value := #[.string (S [60]), .string (S [62, 61]), .string (S [60, 61]), .string (S [62]), .string (S [61, 61]), .string (S [33, 61])]
def RelsAt (w : World) : Prop := ∃ t f, w.heap[gRels]? = some (.cells relsV t f)

/-- The reader's and the program's cells. -/
structure RdAt (src : Bytes) (B r p : Nat) (w : World) (st : RS) : Prop where
  rd : w.heap[r]? = some (.cells #[.string (S src), vi st.at_, vi st.en, vi st.op, pt p 0] tyReader (0, 0))
  pg : ∃ nv, w.heap[p]? = some (.cells #[.slice none 0 0, vi st.points, vi st.sites, nv] tyProg (0, 0)) ∧ NumsAt B w nv st.nums
  rB : B ≤ r
  pB : B ≤ p
  rp : r ≠ p
  rl : RelsAt w
  gB : gRels < B

theorem RdAt.dr {src : Bytes} {B r p : Nat} {w : World} {st : RS} (h : RdAt src B r p w st) : RdAt src B r p (dr w) st := ⟨h.rd, h.pg, h.rB, h.pB, h.rp, h.rl, h.gB⟩

theorem lt_of_heap {w : World} {c : Nat} {x : Obj} (h : w.heap[c]? = some x) : c < w.heap.size := (Array.getElem?_eq_some_iff.1 h).1
theorem NumsAt.keep {B : Nat} {w w' : World} {v : Value} {l : List Nat} (h : NumsAt B w v l) (hk : ∀ (c : Nat) (cs : Array Value), w.heap[c]? = some (Obj.cells cs tyInt (0, 0)) → w'.heap[c]? = some (Obj.cells cs tyInt (0, 0))) : NumsAt B w' v l := by
  refine ⟨h.1, ?_⟩
  rcases h.2 with h | ⟨nb, cap, c, h1, h2, h3, h4⟩
  · exact .inl h
  · exact .inr ⟨nb, cap, c, h1, h2, hk _ _ h3, h4⟩
/-- A store into the reader's own cells. -/
theorem RdAt.put_rd {src : Bytes} {B r p : Nat} {w : World} {st st' : RS} (h : RdAt src B r p w st) {i : Nat} {v : Value}
    (hc : #[.string (S src), vi st.at_, vi st.en, vi st.op, pt p 0].setIfInBounds i v = #[.string (S src), vi st'.at_, vi st'.en, vi st'.op, pt p 0])
    (h1 : st'.points = st.points) (h2 : st'.sites = st.sites) (h3 : st'.nums = st.nums) : RdAt src B r p (put w r i v) st' := by
  obtain ⟨nv, hp, hn⟩ := h.pg
  refine ⟨?_, ⟨nv, ?_, ?_⟩, h.rB, h.pB, h.rp, ?_, h.gB⟩
  · rw [heap_put_self, h.rd, map_setObj, hc]
  · rw [heap_put_ne h.rp.symm, hp, h1, h2]
  · rw [h3]
    refine hn.keep fun c cs hcs => ?_
    have : c ≠ r := fun e => by rw [e, h.rd] at hcs; cases hcs
    rw [heap_put_ne this, hcs]
  · obtain ⟨t, f, hl⟩ := h.rl
    have h1 := h.rB; have h2 := h.gB
    exact ⟨t, f, by rw [heap_put_ne (by omega)]; exact hl⟩
theorem RdAt.put_en {src : Bytes} {B r p : Nat} {w : World} {st : RS} (h : RdAt src B r p w st) (n : Nat) : RdAt src B r p (put w r 2 (vi n)) { st with en := n } :=
  h.put_rd rfl rfl rfl rfl
theorem RdAt.put_at {src : Bytes} {B r p : Nat} {w : World} {st : RS} (h : RdAt src B r p w st) (n : Nat) : RdAt src B r p (put w r 1 (vi n)) { st with at_ := n } :=
  h.put_rd rfl rfl rfl rfl
theorem RdAt.put_op {src : Bytes} {B r p : Nat} {w : World} {st : RS} (h : RdAt src B r p w st) (n : Nat) : RdAt src B r p (put w r 3 (vi n)) { st with op := n } :=
  h.put_rd rfl rfl rfl rfl
/-- A store into the program's cells. -/
theorem RdAt.put_pg {src : Bytes} {B r p : Nat} {w : World} {st st' : RS} (h : RdAt src B r p w st) {i : Nat} {v : Value}
    (hc : ∀ nv, #[.slice none 0 0, vi st.points, vi st.sites, nv].setIfInBounds i v = #[.slice none 0 0, vi st'.points, vi st'.sites, nv])
    (h1 : st'.at_ = st.at_) (h2 : st'.en = st.en) (h3 : st'.op = st.op) (h4 : st'.nums = st.nums) : RdAt src B r p (put w p i v) st' := by
  obtain ⟨nv, hp, hn⟩ := h.pg
  refine ⟨?_, ⟨nv, ?_, ?_⟩, h.rB, h.pB, h.rp, ?_, h.gB⟩
  · rw [heap_put_ne h.rp, h.rd, h1, h2, h3]
  · rw [heap_put_self, hp, map_setObj, hc]
  · rw [h4]
    refine hn.keep fun c cs hcs => ?_
    have : c ≠ p := fun e => by rw [e, hp] at hcs; cases hcs
    rw [heap_put_ne this, hcs]
  · obtain ⟨t, f, hl⟩ := h.rl
    have h1 := h.pB; have h2 := h.gB
    exact ⟨t, f, by rw [heap_put_ne (by omega)]; exact hl⟩
theorem RdAt.put_points {src : Bytes} {B r p : Nat} {w : World} {st : RS} (h : RdAt src B r p w st) (n : Nat) : RdAt src B r p (put w p 1 (vi n)) { st with points := n } :=
  h.put_pg (fun _ => rfl) rfl rfl rfl rfl
theorem RdAt.put_sites {src : Bytes} {B r p : Nat} {w : World} {st : RS} (h : RdAt src B r p w st) (n : Nat) : RdAt src B r p (put w p 2 (vi n)) { st with sites := n } :=
  h.put_pg (fun _ => rfl) rfl rfl rfl rfl
theorem RdAt.alloc {src : Bytes} {B r p : Nat} {w : World} {st : RS} (h : RdAt src B r p w st) (x : Obj) : RdAt src B r p (w.alloc x) st := by
  obtain ⟨nv, hp, hn⟩ := h.pg
  have hr := lt_of_heap h.rd
  have hp' := lt_of_heap hp
  refine ⟨?_, ⟨nv, ?_, ?_⟩, h.rB, h.pB, h.rp, ?_, h.gB⟩
  · rw [heap_alloc_ne (by omega), h.rd]
  · rw [heap_alloc_ne (by omega), hp]
  · refine hn.keep fun c cs hcs => ?_
    have := lt_of_heap hcs
    rw [heap_alloc_ne (by omega), hcs]
  · obtain ⟨t, f, hl⟩ := h.rl
    have := lt_of_heap hl
    exact ⟨t, f, by rw [heap_alloc_ne (by omega)]; exact hl⟩
theorem RdAt.B_le {src : Bytes} {B r p : Nat} {w : World} {st : RS} (h : RdAt src B r p w st) : B ≤ w.heap.size := by
  have := lt_of_heap h.rd; have := h.rB; omega
end Go.Inv
/- Contracts of the reader's small functions. -/
namespace Go.Inv
open Go.Sh
set_option maxHeartbeats 400000
abbrev vb (c : UInt8) : Value := .int .u8 (c.toNat : Int)

set_option linter.unusedSimpArgs false
theorem letterB_int (c : UInt8) : letterB c = (decide ((97 : Int) ≤ (c.toNat : Int)) && decide ((c.toNat : Int) ≤ 122)) := by
  rw [Bool.eq_iff_iff]; simp [letterB]; omega
theorem digitB_int (c : UInt8) : digitB c = (decide ((48 : Int) ≤ (c.toNat : Int)) && decide ((c.toNat : Int) ≤ 57)) := by
  rw [Bool.eq_iff_iff]; simp [digitB]; omega
theorem letter_ok (c : UInt8) (w : World) : Calls pr n_text_letter #[vb c] w (Is (.bool (letterB c)) (w)) := by
  refine sh_text_letter_ok _ _ _ ?_
  unfold sh_text_letter
  simp only [↓RG, RV]
  rw [letterB_int]
  refine condG_split (fun h => ?_) (fun h => ?_)
  · rw [h]; simp only [↓RG, RV, cond_true]; exact ⟨rfl, rfl⟩
  · rw [ne_eq, Bool.not_eq_true] at h; rw [h]; simp only [↓RG, RV, cond_false]; exact ⟨rfl, rfl⟩
theorem digit_ok (c : UInt8) (w : World) : Calls pr n_text_digit #[vb c] w (Is (.bool (digitB c)) (w)) := by
  refine sh_text_digit_ok _ _ _ ?_
  unfold sh_text_digit
  simp only [↓RG, RV]
  rw [digitB_int]
  refine condG_split (fun h => ?_) (fun h => ?_)
  · rw [h]; simp only [↓RG, RV, cond_true]; exact ⟨rfl, rfl⟩
  · rw [ne_eq, Bool.not_eq_true] at h; rw [h]; simp only [↓RG, RV, cond_false]; exact ⟨rfl, rfl⟩

theorem piece_tok (src : Bytes) (st : RS) : piece src st.at_ st.en = tok src st := by simp [piece, tok]

theorem token_ok {src : Bytes} {B r p : Nat} {w : World} {st : RS} (h : RdAt src B r p w st) (h2 : st.at_ ≤ st.en) (h3 : st.en ≤ src.length) :
    Calls pr n_text_reader_token #[pt r 0] w (Is (.string (S (tok src st))) (dr w)) := by
  have hr := h.rd
  refine sh_text_reader_token_ok _ _ _ ?_
  unfold sh_text_reader_token
  have hc : strCut src st.at_ st.en = some (.string (S (tok src st))) := by
    rw [← piece_tok]; unfold strCut; rw [if_pos (by omega)]
  simp only [↓RT, ↓RG, RV, hr, hc]
  exact ⟨rfl, rfl⟩
end Go.Inv
