/- A part of the proofs of the cards of this seat: whatever the input, each law returns true and leaves its arguments as they were. No condition. -/
import Derived.Test.YtknfapnlpkmcjaaGreatDoorPC
import Derived.Test.YtknfapnlpkmcjaaGreatDoorPA
import Derived.Test.YtknfapnlpkmcjaaGreatDoorPB
import Derived.Lib.AppendStr
import Derived.Lib.UnsafeStr
import Derived.Lib.Builder
import Derived.Shelf.LaysM
import Derived.Shelf.Strings.Repeat
import Derived.Shelf.Strconv.Itoa3
import Derived.Test.YtknfapnlpkmcjaaGreatDoorProg
set_option linter.all false
set_option maxRecDepth 100000
set_option maxHeartbeats 32000000
namespace Go.Inv
open Go.Sh
def B8W(K:Yv)(E:B7)(a0:Value)(w:World):Prop:=
 o pr E w (H1 118 a0) fun t1 w=>
 o pr E w (A1 118 t1) fun t5 w=>
 o pr E w (C7 t5) fun t6 w=>
 o pr E w (C4 123 t6 2) fun t7 w=>
 o pr E w (A1 3 t7) fun t8 w=>
 ∃(I1:Yl) (m1:Yn),I1 [t8] w∧
 ∀(e1:Nat→Value) w1,I1 [e1 2] w1→(fun w=>
 (fun(k2:Yv)=>
 o pr E w (A1 118 t1) fun t10 w=>
 o pr E w (C7 t10) fun t11 w=>
 o pr E w (C4 123 t11 0) fun t12 w=>
 o pr E w (A1 9 t12) fun t13 w=>
 o pr E w (sB .len [9] 3 [t13]) fun t14 w=>
 o pr E w (E9 .lss 3 (e1 2) t14 3) fun t15 w=>
 D8 t15 true (o pr E w (A1 118 t1) fun t17 w=>
 o pr E w (C7 t17) fun t18 w=>
 o pr E w (C4 123 t18 0) fun t19 w=>
 o pr E w (A1 9 t19) fun t20 w=>
 o pr E w (R1 9 t20 (e1 2)) fun t22 w=>
 o pr E w (A8 .eql 5 t22 (Value.int IntKind.u8 32) 5) fun t23 w=>
 (fun(q1:Yv)=>
 D8 t23 false (o pr E w (A1 118 t1) fun t25 w=>
 o pr E w (C7 t25) fun t26 w=>
 o pr E w (C4 123 t26 0) fun t27 w=>
 o pr E w (A1 9 t27) fun t28 w=>
 o pr E w (R1 9 t28 (e1 2)) fun t30 w=>
 o pr E w (A8 .eql 5 t30 (Value.int IntKind.u8 10) 5) fun t31 w=>
 q1 t31 w)
  (q1 undef w))
 (fun t31_1 w=>
 o pr E w (D1 t23 (Value.bool true) t31_1) fun t32 w=>
 o pr E w (D1 t15 t32 (Value.bool false)) fun t33_1 w=>
 k2 t33_1 w))
  ((fun(q2:Yv)=>
 D8 undef false (o pr E w (A1 118 t1) fun t25_1 w=>
 o pr E w (C7 t25_1) fun t26_1 w=>
 o pr E w (C4 123 t26_1 0) fun t27_1 w=>
 o pr E w (A1 9 t27_1) fun t28_1 w=>
 o pr E w (R1 9 t28_1 (e1 2)) fun t30_1 w=>
 o pr E w (A8 .eql 5 t30_1 (Value.int IntKind.u8 10) 5) fun t31_2 w=>
 q2 t31_2 w)
  (q2 undef w))
 (fun _ w=>
 o pr E w (D1 t15 undef (Value.bool false)) fun t33_2 w=>
 k2 t33_2 w)))
 (fun t33 w=>
 B6 t33 (o pr E w (A8 .add 3 (e1 2) (vi 1) 3) fun t35 w=>
 I1 [t35] w∧m1 [t35] w<m1 [e1 2] w1)
  ((fun w=>
 oa pr w (A1 118 t1) fun t36=>
 oa pr w (A1 118 t1) fun t37=>
 oz pr (C7 t36) fun t40=>
 oz pr (C4 123 t40 1) fun t41=>
 o pr E w (A2 3 t41 (e1 2)) fun _ w=>
 rk pr w (A1 118 t1) t37∧
 oz pr (C7 t37) fun t42=>
 oz pr (C4 123 t42 2) fun t43=>
 o pr E w (A2 3 t43 (e1 2)) fun _ w=>
 o pr E w (A1 118 t1) fun t45 w=>
 o pr E w (C7 t45) fun t46 w=>
 o pr E w (C4 123 t46 0) fun t47 w=>
 o pr E w (A1 9 t47) fun t48 w=>
 o pr E w (sB .len [9] 3 [t48]) fun t49 w=>
 o pr E w (E9 .eql 3 (e1 2) t49 3) fun t50 w=>
 B6 t50 (K (.tuple #[]) w)
  (o pr E w (A3o (.func A6O) [] [t1]) fun t51 w=>
 o pr E w (A1 118 t1) fun t52 w=>
 o pr E w (C7 t52) fun t53 w=>
 o pr E w (C4 123 t53 0) fun t54 w=>
 o pr E w (A1 9 t54) fun t55 w=>
 o pr E w (R1 9 t55 (e1 2)) fun t57 w=>
 cl pr E w A2n #[t57] fun t74 w=>
 B6 t74 (o pr E w (S1 t51 [(Fu A2n)]) fun _ w=>
 K (.tuple #[]) w)
  (cl pr E w A1S #[t57] fun t79 w=>
 B6 t79 (o pr E w (S1 t51 [(Fu A1S)]) fun _ w=>
 K (.tuple #[]) w)
  ((fun w=>
 oa pr w (A1 118 t1) fun t58=>
 oz pr (C7 t58) fun t59=>
 oz pr (C4 123 t59 2) fun t60=>
 oa pr w (A1 3 t60) fun t61=>
 oa pr w (A1 118 t1) fun t62=>
 oz pr (C7 t62) fun t63=>
 oz pr (C4 123 t63 0) fun t64=>
 oa pr w (A1 9 t64) fun t65=>
 oz pr (X8 9 t65 (some (e1 2)) none none) fun t67=>
 cl pr E w B0o #[t67] fun t68 w=>
 rk pr w (A1 3 t60) t61∧
 rk pr w (A1 118 t1) t58∧
 oz pr (E9 .add 3 t61 t68 3) fun t69=>
 oz pr (C7 t58) fun t70=>
 oz pr (C4 123 t70 2) fun t71=>
 o pr E w (A2 3 t71 t69) fun _ w=>
 K (.tuple #[]) w) (dr w))))) (dr w)))) w1
def C6Y:E0:=[(1,[1]),(2,[1,2]),(3,[1,2]),(4,[1,2]),(5,[1,2]),(6,[1,2]),(7,[1,2,3]),(9,[1,2,3,4]),(10,[1,2,3,4,72]),(12,[1,2,3,77])]
theorem C0B(a0:Value)(w:World)(R:Ye)
 (h:B8W (fun v w=>R (.returned v) w) (fun c w=>R (.panicked c) w) a0 w):Calls pr A0O #[a0] w R:=
 B8 (A:=C6Y) D4 E3 Go.Proofs.Tryz.func45 kr kr kr
  (Eq.mp kr h)
def A7C(K:Yv)(E:B7)(a0:Value)(w:World):Prop:=
 cl pr E w B2M #[a0] fun t10 w=>
 ∃(I1:Yl) (m1:Yn),I1 [(Value.slice none 0 0)] w∧
 ∀(e1:Nat→Value) w1,I1 [e1 4] w1→(fun w=>
 cl pr E w X2 #[a0] fun t14 w=>
 o pr E w (C8b 188 t10 t14 true) fun t15 w=>
 o pr E w (D6 t15 0) fun t16 w=>
 o pr E w (D6 t15 1) fun t17 w=>
 o pr E w (C7 a0) fun t19 w=>
 o pr E w (C4 123 t19 4) fun t20 w=>
 o pr E w (A1 70 t20) fun t21 w=>
 o pr E w (C7 t21) fun t22 w=>
 o pr E w (C4 121 t22 1) fun t23 w=>
 o pr E w (A1 3 t23) fun t24 w=>
 o pr E w (D0 193 [(0,t24)]) fun t25 w=>
 o pr E w (B4 193) fun t7 w=>
 o pr E w (A2 193 t7 t25) fun _ w=>
 B6 t17 (o pr E w (C7 a0) fun t30 w=>
 o pr E w (C4 123 t30 4) fun t31 w=>
 o pr E w (A1 70 t31) fun t32 w=>
 o pr E w (C7 t32) fun t33 w=>
 o pr E w (C4 121 t33 1) fun t34 w=>
 o pr E w (A1 3 t34) fun t35 w=>
 o pr E w (A8 .add 3 t35 (vi 1) 3) fun t36 w=>
 o pr E w (C7 t32) fun t37 w=>
 o pr E w (C4 121 t37 1) fun t38 w=>
 o pr E w (A2 3 t38 t36) fun _ w=>
 cl pr E w A0O #[a0] fun _ w=>
 o pr E w (A1 193 t7) fun t43 w=>
 o pr E w (S1 t16 [t43]) fun t44 w=>
 o pr E w (F2 119 1 [(0,t44)]) fun t45 w=>
 o pr E w (sB .append [119,119] 119 [(e1 4),t45]) fun t46 w=>
 I1 [t46] w∧m1 [t46] w<m1 [e1 4] w1)
  (cl pr E w A1q #[a0] fun t49 w=>
 o pr E w (A8 .geq 3 t49 (vi 0) 3) fun t50 w=>
 B6 t50 (o pr E w (C7 a0) fun t52 w=>
 o pr E w (C4 123 t52 4) fun t53 w=>
 o pr E w (A1 70 t53) fun t54 w=>
 o pr E w (C7 t54) fun t55 w=>
 o pr E w (C4 121 t55 1) fun t56 w=>
 o pr E w (A1 3 t56) fun t57 w=>
 o pr E w (A8 .add 3 t57 (vi 1) 3) fun t58 w=>
 o pr E w (C7 t54) fun t59 w=>
 o pr E w (C4 121 t59 1) fun t60 w=>
 o pr E w (A2 3 t60 t58) fun _ w=>
 (fun w=>
 oa pr w (A1 193 t7) fun t61=>
 cl pr E w A7P #[a0] fun t63 w=>
 rk pr w (A1 193 t7) t61∧
 oz pr (D0 200 [(0,t61),(1,t63)]) fun t64=>
 o pr E w (H1 200 t64) fun t65 w=>
 cl pr E w A1r #[a0,(Value.string (S [61]))] fun _ w=>
 cl pr E w A1M #[a0] fun t70 w=>
 o pr E w (C7 t65) fun t71 w=>
 o pr E w (C4 200 t71 2) fun t72 w=>
 o pr E w (A2 198 t72 t70) fun _ w=>
 cl pr E w A1r #[a0,(Value.string (S [59]))] fun _ w=>
 o pr E w (X9 196 t65) fun t77 w=>
 o pr E w (F2 119 1 [(0,t77)]) fun t78 w=>
 o pr E w (sB .append [119,119] 119 [(e1 4),t78]) fun t79 w=>
 I1 [t79] w∧m1 [t79] w<m1 [e1 4] w1) (dr w))
  (K (e1 4) w))) w1
def B5C:E0:=[(1,[0]),(2,[0,3]),(3,[0,3,4]),(4,[0,3,4,5,6]),(6,[0,3,4,5,6,7]),(7,[0,3,4,5,7,27]),(8,[0,3,4,5,7]),(9,[0,3,4,5,7]),(11,[0,3,4,7,47]),(12,[0,3,4,7]),(13,[0,3,4,8]),(14,[0,3,4,8]),(15,[0,3,4,8]),(16,[0,3,4,8])]
theorem B1E(a0:Value)(w:World)(R:Ye)
 (h:A7C (fun v w=>R (.returned v) w) (fun c w=>R (.panicked c) w) a0 w):Calls pr T8 #[a0] w R:=
 B8 (A:=B5C) D4 E3 Go.Proofs.Tryz.func46 kr kr kr
  (Eq.mp kr h)
def B0b(K:Yv)(E:B7)(a0 a1:Value)(w:World):Prop:=
 o pr E w (C7 a0) fun t5 w=>
 o pr E w (C4 123 t5 1) fun t6 w=>
 o pr E w (A1 3 t6) fun t7 w=>
 o pr E w (D0 78 [(0,t7)]) fun t8 w=>
 o pr E w (D0 80 [(0,t8),(1,a1)]) fun t10 w=>
 o pr E w (H1 80 t10) fun t11 w=>
 o pr E w (X9 74 t11) fun t12 w=>
 o pr E w (B0g t12) fun _ w=>
 K (.tuple #[]) w
def C5h:E0:=[]
theorem B0a(a0 a1:Value)(w:World)(R:Ye)
 (h:B0b (fun v w=>R (.returned v) w) (fun c w=>R (.panicked c) w) a0 a1 w):Calls pr A0v #[a0,a1] w R:=
 B8 (A:=C5h) D4 E3 Go.Proofs.Tryz.func47 kr kr kr
  (Eq.mp kr h)
def B3I(K:Yv)(E:B7)(a0 a1:Value)(w:World):Prop:=
 ∃(I1:Yl) (m1:Yn),I1 [] w∧
 ∀(e1:Nat→Value) w1,I1 [] w1→(fun w=>
 (fun w=>
 (fun(k0:Yv)=>
 oa pr w (A1 118 a1) fun t3=>
 oz pr (C7 t3) fun t4=>
 oz pr (C4 123 t4 2) fun t5=>
 oa pr w (A1 3 t5) fun t6=>
 oa pr w (A1 118 a1) fun t7=>
 oz pr (C7 t7) fun t8=>
 oz pr (C4 123 t8 0) fun t9=>
 oa pr w (A1 9 t9) fun t10=>
 oz pr (sB .len [9] 3 [t10]) fun t11=>
 oz pr (E9 .lss 3 t6 t11 3) fun t12=>
 D8 t12 true (oa pr w (A1 118 a1) fun t15=>
 oz pr (C7 t15) fun t16=>
 oz pr (C4 123 t16 0) fun t17=>
 oa pr w (A1 9 t17) fun t18=>
 oa pr w (A1 118 a1) fun t19=>
 oz pr (C7 t19) fun t20=>
 oz pr (C4 123 t20 2) fun t21=>
 oa pr w (A1 3 t21) fun t22=>
 oz pr (R1 9 t18 t22) fun t23=>
 o pr E w (S1 a0 [t23]) fun t24 w=>
 oz pr (D1 t12 t24 (Value.bool false)) fun t25_1=>
 k0 t25_1 w)
  (oz pr (D1 t12 undef (Value.bool false)) fun t25_2=>
 k0 t25_2 w))
 (fun t25 w=>
 B6 t25 (o pr E w (A1 118 a1) fun t26 w=>
 o pr E w (C7 t26) fun t27 w=>
 o pr E w (C4 123 t27 2) fun t28 w=>
 o pr E w (A1 3 t28) fun t29 w=>
 o pr E w (A8 .add 3 t29 (vi 1) 3) fun t30 w=>
 o pr E w (C7 t26) fun t31 w=>
 o pr E w (C4 123 t31 2) fun t32 w=>
 o pr E w (A2 3 t32 t30) fun _ w=>
 I1 [] w∧m1 [] w<m1 [] w1)
  (K (.tuple #[]) w))) (dr w)) w1
def C2Z:E0:=[(0,[0,1]),(1,[0,1])]
theorem B6R(a0 a1:Value)(w:World)(R:Ye)
 (h:B3I (fun v w=>R (.returned v) w) (fun c w=>R (.panicked c) w) a0 a1 w):Calls pr A6O #[a0,a1] w R:=
 B8 (A:=C2Z) D4 E3 Go.Proofs.Tryz.func69 kr kr kr
  (Eq.mp kr h)
def A9T(K:Yv)(E:B7)(a0:Value)(w:World):Prop:=
 (fun(k1:Yv)=>
 o pr E w (B2j .leq 5 (Value.int IntKind.u8 97) a0 5) fun t4 w=>
 D8 t4 true (o pr E w (A8 .leq 5 a0 (Value.int IntKind.u8 122) 5) fun t7 w=>
 o pr E w (D1 t4 t7 (Value.bool false)) fun t8 w=>
 k1 t8 w)
  (o pr E w (D1 t4 undef (Value.bool false)) fun t8_1 w=>
 k1 t8_1 w))
 (fun t2 w=>
 K t2 w)
def B9J:E0:=[(1,[0])]
theorem B3z(a0:Value)(w:World)(R:Ye)
 (h:A9T (fun v w=>R (.returned v) w) (fun c w=>R (.panicked c) w) a0 w):Calls pr A2n #[a0] w R:=
 B8 (A:=B9J) D4 E3 Go.Proofs.Tryz.func70 kr kr kr
  (Eq.mp kr h)
def B1T(K:Yv)(E:B7)(a0:Value)(w:World):Prop:=
 (fun(k1:Yv)=>
 o pr E w (B2j .leq 5 (Value.int IntKind.u8 48) a0 5) fun t4 w=>
 D8 t4 true (o pr E w (A8 .leq 5 a0 (Value.int IntKind.u8 57) 5) fun t7 w=>
 o pr E w (D1 t4 t7 (Value.bool false)) fun t8 w=>
 k1 t8 w)
  (o pr E w (D1 t4 undef (Value.bool false)) fun t8_1 w=>
 k1 t8_1 w))
 (fun t2 w=>
 K t2 w)
def C0M:E0:=[(1,[0])]
theorem B4U(a0:Value)(w:World)(R:Ye)
 (h:B1T (fun v w=>R (.returned v) w) (fun c w=>R (.panicked c) w) a0 w):Calls pr A1S #[a0] w R:=
 B8 (A:=C0M) D4 E3 Go.Proofs.Tryz.func71 kr kr kr
  (Eq.mp kr h)
def B3y(K:Yv)(E:B7)(a0:Value)(w:World):Prop:=
 ∃j1:Yl,(∀(e1:Nat→Value) w,j1 [] w→
 K (vi 0) w)∧
 o pr E w (R1 9 a0 (vi 0)) fun t4 w=>
 ∃j2:Yl,(∀(e2:Nat→Value) w,j2 [e2 5] w→
 B6 (e2 5) ((fun(k5:Yv)=>
 o pr E w (sB .len [9] 3 [a0]) fun t10 w=>
 o pr E w (A8 .gtr 3 t10 (vi 1) 3) fun t11 w=>
 D8 t11 true (o pr E w (R1 9 a0 (vi 1)) fun t14 w=>
 o pr E w (A8 .eql 5 t14 (Value.int IntKind.u8 61) 5) fun t15 w=>
 o pr E w (D1 t11 t15 (Value.bool false)) fun t16_1 w=>
 k5 t16_1 w)
  (o pr E w (D1 t11 undef (Value.bool false)) fun t16_2 w=>
 k5 t16_2 w))
 (fun t16 w=>
 B6 t16 (K (vi 2) w)
  (K (vi 1) w)))
  (o pr E w (A8 .eql 5 t4 (Value.int IntKind.u8 33) 5) fun t18 w=>
 B6 t18 ((fun(k9:Yv)=>
 o pr E w (sB .len [9] 3 [a0]) fun t20 w=>
 o pr E w (A8 .gtr 3 t20 (vi 1) 3) fun t21 w=>
 D8 t21 true (o pr E w (R1 9 a0 (vi 1)) fun t24 w=>
 o pr E w (A8 .eql 5 t24 (Value.int IntKind.u8 61) 5) fun t25 w=>
 o pr E w (D1 t21 t25 (Value.bool false)) fun t26_1 w=>
 k9 t26_1 w)
  (o pr E w (D1 t21 undef (Value.bool false)) fun t26_2 w=>
 k9 t26_2 w))
 (fun t26 w=>
 B6 t26 (K (vi 2) w)
  (K (vi 0) w)))
  (∃j3:Yl,(∀(e3:Nat→Value) w,j3 [e3 27] w→
 B6 (e3 27) (K (vi 1) w)
  (j1 [] w))∧
 o pr E w (A8 .eql 5 t4 (Value.int IntKind.u8 43) 5) fun t28 w=>
 B6 t28 (j3 [t28] w)
  (o pr E w (A8 .eql 5 t4 (Value.int IntKind.u8 45) 5) fun t29 w=>
 B6 t29 (j3 [t29] w)
  (o pr E w (A8 .eql 5 t4 (Value.int IntKind.u8 42) 5) fun t30 w=>
 B6 t30 (j3 [t30] w)
  (o pr E w (A8 .eql 5 t4 (Value.int IntKind.u8 47) 5) fun t31 w=>
 B6 t31 (j3 [t31] w)
  (o pr E w (A8 .eql 5 t4 (Value.int IntKind.u8 37) 5) fun t32 w=>
 B6 t32 (j3 [t32] w)
  (o pr E w (A8 .eql 5 t4 (Value.int IntKind.u8 40) 5) fun t33 w=>
 B6 t33 (j3 [t33] w)
  (o pr E w (A8 .eql 5 t4 (Value.int IntKind.u8 41) 5) fun t34 w=>
 B6 t34 (j3 [t34] w)
  (o pr E w (A8 .eql 5 t4 (Value.int IntKind.u8 123) 5) fun t35 w=>
 B6 t35 (j3 [t35] w)
  (o pr E w (A8 .eql 5 t4 (Value.int IntKind.u8 125) 5) fun t36 w=>
 B6 t36 (j3 [t36] w)
  (o pr E w (A8 .eql 5 t4 (Value.int IntKind.u8 59) 5) fun t37 w=>
 j3 [t37] w))))))))))))∧
 o pr E w (A8 .eql 5 t4 (Value.int IntKind.u8 60) 5) fun t6 w=>
 B6 t6 (j2 [t6] w)
  (o pr E w (A8 .eql 5 t4 (Value.int IntKind.u8 62) 5) fun t7 w=>
 B6 t7 (j2 [t7] w)
  (o pr E w (A8 .eql 5 t4 (Value.int IntKind.u8 61) 5) fun t8 w=>
 j2 [t8] w))
def C2R:E0:=[(1,[0]),(2,[0,4]),(3,[0,4,5]),(4,[0,4,5]),(5,[0,4,5]),(6,[16]),(7,[]),(9,[0,4,17]),(10,[26]),(11,[]),(13,[4,27]),(14,[4,27]),(15,[4,27]),(16,[4,27]),(17,[4,27]),(18,[4,27]),(19,[4,27]),(20,[4,27]),(21,[4,27]),(22,[27]),(23,[])]
theorem B6J(a0:Value)(w:World)(R:Ye)
 (h:B3y (fun v w=>R (.returned v) w) (fun c w=>R (.panicked c) w) a0 w):Calls pr B0o #[a0] w R:=
 B8 (A:=C2R) D4 E3 Go.Proofs.Tryz.func72 kr kr kr
  (Eq.mp kr h)
def B6g(K:Yv)(E:B7)(a0:Value)(w:World):Prop:=
 o pr E w (H1 118 a0) fun t1 w=>
 o pr E w (B9m 188) fun t3 w=>
 o pr E w (A3o (.func V4) [] [t1]) fun t4 w=>
 o pr E w (A8v 188 t3 (Value.string (S [114,101,97,100])) t4) fun _ w=>
 o pr E w (A3o (.func Y2) [] [t1]) fun t5 w=>
 o pr E w (A8v 188 t3 (Value.string (S [97,115,115,101,114,116])) t5) fun _ w=>
 o pr E w (A3o (.func A0o) [] [t1]) fun t6 w=>
 o pr E w (A8v 188 t3 (Value.string (S [105,102])) t6) fun _ w=>
 o pr E w (A3o (.func A1h) [] [t1]) fun t7 w=>
 o pr E w (A8v 188 t3 (Value.string (S [119,104,105,108,101])) t7) fun _ w=>
 K t3 w
def C5i:E0:=[(1,[1])]
theorem B8X(a0:Value)(w:World)(R:Ye)
 (h:B6g (fun v w=>R (.returned v) w) (fun c w=>R (.panicked c) w) a0 w):Calls pr B2M #[a0] w R:=
 B8 (A:=C5i) D4 E3 Go.Proofs.Tryz.func73 kr kr kr
  (Eq.mp kr h)
def B6f(K:Yv)(_E:B7)(a0:Value)(w:World):Prop:=
 (fun w=>
 oz pr (C7 a0) fun t4=>
 oz pr (C4 123 t4 0) fun t5=>
 oa pr w (A1 9 t5) fun t6=>
 oz pr (C7 a0) fun t8=>
 oz pr (C4 123 t8 1) fun t9=>
 oa pr w (A1 3 t9) fun t10=>
 oz pr (C7 a0) fun t12=>
 oz pr (C4 123 t12 2) fun t13=>
 oa pr w (A1 3 t13) fun t14=>
 oz pr (X8 9 t6 (some t10) (some t14) none) fun t15=>
 K t15 w) (dr w)
def C5g:E0:=[(1,[0])]
theorem B8U(a0:Value)(w:World)(R:Ye)
 (h:B6f (fun v w=>R (.returned v) w) (fun c w=>R (.panicked c) w) a0 w):Calls pr X2 #[a0] w R:=
 B8 (A:=C5g) D4 E3 Go.Proofs.Tryz.func74 kr kr kr
  (Eq.mp kr h)
def A5T(K:Yv)(E:B7)(a0:Value)(w:World):Prop:=
 cl pr E w X2 #[a0] fun t5 w=>
 (fun(k2:Yv)=>
 o pr E w (sB .len [9] 3 [t5]) fun t7 w=>
 o pr E w (A8 .neq 3 t7 (vi 1) 3) fun t8 w=>
 (fun(q1:Yv)=>
 D8 t8 false (o pr E w (R1 9 t5 (vi 0)) fun t11 w=>
 o pr E w (A8 .lss 5 t11 (Value.int IntKind.u8 97) 5) fun t12 w=>
 q1 t12 w)
  (q1 undef w))
 (fun t12_1 w=>
 o pr E w (D1 t8 (Value.bool true) t12_1) fun t13 w=>
 D8 t13 false (o pr E w (R1 9 t5 (vi 0)) fun t16 w=>
 o pr E w (A8 .gtr 5 t16 (Value.int IntKind.u8 104) 5) fun t17 w=>
 o pr E w (D1 t13 (Value.bool true) t17) fun t18_1 w=>
 k2 t18_1 w)
  (o pr E w (D1 t13 (Value.bool true) undef) fun t18_2 w=>
 k2 t18_2 w)))
 (fun t18 w=>
 B6 t18 (K (Value.int IntKind.i64 (-1)) w)
  (o pr E w (R1 9 t5 (vi 0)) fun t20 w=>
 o pr E w (A8 .sub 5 t20 (Value.int IntKind.u8 97) 5) fun t21 w=>
 o pr E w (A9c 5 3 t21) fun t22 w=>
 K t22 w))
def B9M:E0:=[(1,[0]),(2,[3]),(3,[3,18]),(4,[3])]
theorem A6E(a0:Value)(w:World)(R:Ye)
 (h:A5T (fun v w=>R (.returned v) w) (fun c w=>R (.panicked c) w) a0 w):Calls pr A1q #[a0] w R:=
 B8 (A:=B9M) D4 E3 Go.Proofs.Tryz.func75 kr kr kr
  (Eq.mp kr h)
def B2z(K:Yv)(E:B7)(a0:Value)(w:World):Prop:=
 ∃j1:Yl,(∀(e1:Nat→Value) w,j1 [e1 3] w→
 cl pr E w A0O #[a0] fun _ w=>
 K (e1 3) w)∧
 cl pr E w A1q #[a0] fun t5 w=>
 o pr E w (A8 .lss 3 t5 (vi 0) 3) fun t7 w=>
 B6 t7 (cl pr E w A0v #[a0,(vi 2)] fun _ w=>
 j1 [t5] w)
  (j1 [t5] w)
def C6Z:E0:=[(1,[0]),(2,[0,3]),(3,[0,3,7]),(4,[0,3]),(5,[3])]
theorem B2b(a0:Value)(w:World)(R:Ye)
 (h:B2z (fun v w=>R (.returned v) w) (fun c w=>R (.panicked c) w) a0 w):Calls pr A7P #[a0] w R:=
 B8 (A:=C6Z) D4 E3 Go.Proofs.Tryz.func76 kr kr kr
  (Eq.mp kr h)
def B8V(K:Yv)(E:B7)(a0 a1:Value)(w:World):Prop:=
 ∃j1:Yl,(∀(e1:Nat→Value) w,j1 [] w→
 cl pr E w A0O #[a0] fun _ w=>
 K (.tuple #[]) w)∧
 cl pr E w X2 #[a0] fun t5 w=>
 o pr E w (E9 .neq 9 t5 a1 9) fun t7 w=>
 B6 t7 (cl pr E w A0v #[a0,(vi 2)] fun _ w=>
 j1 [] w)
  (j1 [] w)
def C6X:E0:=[(1,[0,7]),(2,[0])]
theorem C0A(a0 a1:Value)(w:World)(R:Ye)
 (h:B8V (fun v w=>R (.returned v) w) (fun c w=>R (.panicked c) w) a0 a1 w):Calls pr A1r #[a0,a1] w R:=
 B8 (A:=C6X) D4 E3 Go.Proofs.Tryz.func77 kr kr kr
  (Eq.mp kr h)
def C1q(K:Yv)(E:B7)(a0:Value)(w:World):Prop:=
 o pr E w (A3o (.func A5q) [a0] []) fun t5 w=>
 cl pr E w A8J #[a0,(Value.string (S [43,45])),t5] fun t6 w=>
 K t6 w
def D0X:E0:=[(1,[0])]
theorem C2u(a0:Value)(w:World)(R:Ye)
 (h:C1q (fun v w=>R (.returned v) w) (fun c w=>R (.panicked c) w) a0 w):Calls pr A1M #[a0] w R:=
 B8 (A:=D0X) D4 E3 Go.Proofs.Tryz.func78 kr kr kr
  (Eq.mp kr h)
def B2f(K:Yv)(E:B7)(a0 a1:Value)(w:World):Prop:=
 o pr E w (H1 193 a0) fun t2 w=>
 (fun w=>
 oa pr w (A1 193 t2) fun t5=>
 oa pr w (A1 118 a1) fun t6=>
 cl pr E w A7P #[t6] fun t7 w=>
 rk pr w (A1 193 t2) t5∧
 oz pr (D0 206 [(0,t5),(1,t7)]) fun t8=>
 o pr E w (H1 206 t8) fun t9 w=>
 o pr E w (A1 118 a1) fun t10 w=>
 cl pr E w A1r #[t10,(Value.string (S [59]))] fun _ w=>
 o pr E w (X9 204 t9) fun t13 w=>
 K t13 w) (dr w)
def C0X:E0:=[(1,[1,2]),(2,[1,4]),(3,[4])]
theorem B5f(a0 a1:Value)(w:World)(R:Ye)
 (h:B2f (fun v w=>R (.returned v) w) (fun c w=>R (.panicked c) w) a0 a1 w):Calls pr V4 #[a0,a1] w R:=
 B8 (A:=C0X) D4 E3 Go.Proofs.Tryz.func110 kr kr kr
  (Eq.mp kr h)
def B2e(K:Yv)(E:B7)(a0 a1:Value)(w:World):Prop:=
 o pr E w (H1 193 a0) fun t2 w=>
 (fun w=>
 oa pr w (A1 193 t2) fun t5=>
 oa pr w (A1 118 a1) fun t6=>
 oz pr (C7 t6) fun t7=>
 oz pr (C4 123 t7 4) fun t8=>
 oa pr w (A1 70 t8) fun t9=>
 oz pr (C7 t9) fun t10=>
 oz pr (C4 121 t10 2) fun t11=>
 oa pr w (A1 3 t11) fun t12=>
 oz pr (D0 213 [(0,t5),(2,t12)]) fun t13=>
 o pr E w (H1 213 t13) fun t14 w=>
 o pr E w (A1 118 a1) fun t15 w=>
 o pr E w (C7 t15) fun t16 w=>
 o pr E w (C4 123 t16 4) fun t17 w=>
 o pr E w (A1 70 t17) fun t18 w=>
 o pr E w (C7 t18) fun t19 w=>
 o pr E w (C4 121 t19 2) fun t20 w=>
 o pr E w (A1 3 t20) fun t21 w=>
 o pr E w (A8 .add 3 t21 (vi 1) 3) fun t22 w=>
 o pr E w (C7 t18) fun t23 w=>
 o pr E w (C4 121 t23 2) fun t24 w=>
 o pr E w (A2 3 t24 t22) fun _ w=>
 o pr E w (A1 118 a1) fun t26 w=>
 cl pr E w A7Q #[t26] fun t27 w=>
 o pr E w (C7 t14) fun t28 w=>
 o pr E w (C4 213 t28 1) fun t29 w=>
 o pr E w (A2 211 t29 t27) fun _ w=>
 o pr E w (A1 118 a1) fun t30 w=>
 cl pr E w A1r #[t30,(Value.string (S [59]))] fun _ w=>
 o pr E w (X9 207 t14) fun t33 w=>
 K t33 w) (dr w)
def C0W:E0:=[(1,[1,2]),(2,[1,4]),(3,[1,4]),(4,[1,4]),(5,[4])]
theorem B5e(a0 a1:Value)(w:World)(R:Ye)
 (h:B2e (fun v w=>R (.returned v) w) (fun c w=>R (.panicked c) w) a0 a1 w):Calls pr Y2 #[a0,a1] w R:=
 B8 (A:=C0W) D4 E3 Go.Proofs.Tryz.func111 kr kr kr
  (Eq.mp kr h)
def B8Y(K:Yv)(E:B7)(a0:Value)(w:World):Prop:=
 o pr E w (B4 211) fun t2 w=>
 cl pr E w A1M #[a0] fun t5 w=>
 o pr E w (D0 211 [(0,t5)]) fun t6 w=>
 o pr E w (B4 211) fun t3 w=>
 o pr E w (A2 211 t3 t6) fun _ w=>
 ∃j1:Yl,(∀(e1:Nat→Value) w,j1 [] w→
 cl pr E w A0O #[a0] fun _ w=>
 cl pr E w A1M #[a0] fun t19 w=>
 o pr E w (C4 211 t3 1) fun t20 w=>
 o pr E w (A2 198 t20 t19) fun _ w=>
 o pr E w (A1 211 t3) fun t21 w=>
 o pr E w (A2 211 t2 t21) fun _ w=>
 rs pr w t2 211 fun v0_0=>
 K v0_0 w)∧
 cl pr E w X2 #[a0] fun t8 w=>
 cl pr E w A8E #[t8] fun t9 w=>
 o pr E w (C4 211 t3 2) fun t10 w=>
 o pr E w (A2 209 t10 t9) fun _ w=>
 o pr E w (C4 211 t3 2) fun t11 w=>
 o pr E w (A1 209 t11) fun t12 w=>
 o pr E w (A8 .lss 209 t12 (vi 0) 209) fun t13 w=>
 B6 t13 (cl pr E w A0v #[a0,(vi 2)] fun _ w=>
 j1 [] w)
  (j1 [] w)
def C7a:E0:=[(1,[0,2]),(2,[0,2,3]),(3,[0,2,3]),(4,[0,2,3,13]),(5,[0,2,3]),(6,[0,2,3]),(7,[2,3])]
theorem C0C(a0:Value)(w:World)(R:Ye)
 (h:B8Y (fun v w=>R (.returned v) w) (fun c w=>R (.panicked c) w) a0 w):Calls pr A7Q #[a0] w R:=
 B8 (A:=C7a) D4 E3 Go.Proofs.Tryz.func112 kr kr kr
  (Eq.mp kr h)
def B2d(K:Yv)(E:B7)(a0 a1:Value)(w:World):Prop:=
 o pr E w (H1 193 a0) fun t2 w=>
 (fun w=>
 oa pr w (A1 193 t2) fun t5=>
 oa pr w (A1 118 a1) fun t6=>
 cl pr E w A7Q #[t6] fun t7 w=>
 rk pr w (A1 193 t2) t5∧
 oz pr (D0 216 [(0,t5),(1,t7)]) fun t8=>
 o pr E w (H1 216 t8) fun t9 w=>
 ∃j1:Yl,(∀(e1:Nat→Value) w,j1 [] w→
 o pr E w (X9 214 t9) fun t29 w=>
 K t29 w)∧
 o pr E w (A1 118 a1) fun t11 w=>
 cl pr E w A6h #[t11] fun t12 w=>
 o pr E w (C7 t9) fun t13 w=>
 o pr E w (C4 216 t13 2) fun t14 w=>
 o pr E w (A2 119 t14 t12) fun _ w=>
 o pr E w (A1 118 a1) fun t15 w=>
 cl pr E w X2 #[t15] fun t16 w=>
 o pr E w (A8 .eql 9 t16 (Value.string (S [101,108,115,101])) 9) fun t17 w=>
 B6 t17 (o pr E w (A1 118 a1) fun t18 w=>
 cl pr E w A0O #[t18] fun _ w=>
 o pr E w (A1 118 a1) fun t22 w=>
 cl pr E w A6h #[t22] fun t23 w=>
 o pr E w (C7 t9) fun t24 w=>
 o pr E w (C4 216 t24 3) fun t25 w=>
 o pr E w (A2 119 t25 t23) fun _ w=>
 o pr E w (C7 t9) fun t26 w=>
 o pr E w (C4 216 t26 4) fun t27 w=>
 o pr E w (A2 4 t27 (Value.bool true)) fun _ w=>
 j1 [] w)
  (j1 [] w)) (dr w)
def C0V:E0:=[(1,[1,2]),(2,[1,4]),(3,[1,4]),(4,[1,4,17]),(5,[1,4]),(6,[4])]
theorem B5d(a0 a1:Value)(w:World)(R:Ye)
 (h:B2d (fun v w=>R (.returned v) w) (fun c w=>R (.panicked c) w) a0 a1 w):Calls pr A0o #[a0,a1] w R:=
 B8 (A:=C0V) D4 E3 Go.Proofs.Tryz.func113 kr kr kr
  (Eq.mp kr h)
def B6i(K:Yv)(E:B7)(a0:Value)(w:World):Prop:=
 o pr E w (A3o (.func T8) [a0] []) fun t6 w=>
 cl pr E w X1 #[a0,(Value.string (S [123])),t6] fun t7 w=>
 cl pr E w A1r #[a0,(Value.string (S [125]))] fun _ w=>
 K t7 w
def C5k:E0:=[(1,[0]),(2,[0,3]),(3,[3])]
theorem B9a(a0:Value)(w:World)(R:Ye)
 (h:B6i (fun v w=>R (.returned v) w) (fun c w=>R (.panicked c) w) a0 w):Calls pr A6h #[a0] w R:=
 B8 (A:=C5k) D4 E3 Go.Proofs.Tryz.func114 kr kr kr
  (Eq.mp kr h)
def B2c(K:Yv)(E:B7)(a0 a1:Value)(w:World):Prop:=
 o pr E w (H1 193 a0) fun t2 w=>
 (fun w=>
 oa pr w (A1 193 t2) fun t5=>
 oa pr w (A1 118 a1) fun t6=>
 cl pr E w A7Q #[t6] fun t7 w=>
 rk pr w (A1 193 t2) t5∧
 oz pr (D0 219 [(0,t5),(1,t7)]) fun t8=>
 o pr E w (H1 219 t8) fun t9 w=>
 o pr E w (A1 118 a1) fun t11 w=>
 cl pr E w A6h #[t11] fun t12 w=>
 o pr E w (C7 t9) fun t13 w=>
 o pr E w (C4 219 t13 2) fun t14 w=>
 o pr E w (A2 119 t14 t12) fun _ w=>
 o pr E w (X9 217 t9) fun t16 w=>
 K t16 w) (dr w)
def C0U:E0:=[(1,[1,2]),(2,[1,4]),(3,[4])]
theorem B5c(a0 a1:Value)(w:World)(R:Ye)
 (h:B2c (fun v w=>R (.returned v) w) (fun c w=>R (.panicked c) w) a0 a1 w):Calls pr A1h #[a0,a1] w R:=
 B8 (A:=C0U) D4 E3 Go.Proofs.Tryz.func115 kr kr kr
  (Eq.mp kr h)
def B6h(K:Yv)(E:B7)(a0 a1 a2:Value)(w:World):Prop:=
 ∃(I1:Yl) (m1:Yn),(∀(e1:Nat→Value) w1,I1 [e1 6,e1 7] w1→(fun w=>
 cl pr E w X2 #[a0] fun t14 w=>
 o pr E w (sB .len [9] 3 [a1]) fun t16 w=>
 ∃(I2:Yl) (m2:Yn),I2 [(e1 7),(vi 0)] w∧
 ∀(e2:Nat→Value) w2,I2 [e2 7,e2 17] w2→(fun w=>
 o pr E w (E9 .lss 3 (e2 17) t16 3) fun t18 w=>
 B6 t18 (o pr E w (A8 .add 3 (e2 17) (vi 1) 3) fun t24 w=>
 o pr E w (X8 9 a1 (some (e2 17)) (some t24) none) fun t25 w=>
 o pr E w (E9 .eql 9 t14 t25 9) fun t26 w=>
 B6 t26 (∃j3:Yl,(∀(e3:Nat→Value) w,j3 [e3 10] w→
 cl pr E w A0O #[a0] fun _ w=>
 (fun w=>
 oz pr (R1 9 t14 (vi 0)) fun t53=>
 o pr E w (S1 a2 []) fun t56 w=>
 oz pr (D0 283 [(0,t53),(1,(e2 7)),(2,t56),(3,(e3 10))]) fun t58=>
 o pr E w (H1 283 t58) fun t59 w=>
 oz pr (X9 281 t59) fun t60=>
 0=0∧I1 [(e1 6),t60] w∧m1 [(e1 6),t60] w<m1 [e1 6,e1 7] w1) (dr w))∧
 (fun(k8:Yv)=>
 o pr E w (A8 .eql 9 t14 (Value.string (S [47])) 9) fun t28 w=>
 D8 t28 false (o pr E w (A8 .eql 9 t14 (Value.string (S [37])) 9) fun t31 w=>
 o pr E w (D1 t28 (Value.bool true) t31) fun t32_1 w=>
 k8 t32_1 w)
  (o pr E w (D1 t28 (Value.bool true) undef) fun t32_2 w=>
 k8 t32_2 w))
 (fun t32 w=>
 B6 t32 (o pr E w (C7 a0) fun t34 w=>
 o pr E w (C4 123 t34 4) fun t35 w=>
 o pr E w (A1 70 t35) fun t36 w=>
 o pr E w (C7 t36) fun t37 w=>
 o pr E w (C4 121 t37 2) fun t38 w=>
 o pr E w (A1 3 t38) fun t39 w=>
 o pr E w (C7 a0) fun t41 w=>
 o pr E w (C4 123 t41 4) fun t42 w=>
 o pr E w (A1 70 t42) fun t43 w=>
 o pr E w (C7 t43) fun t44 w=>
 o pr E w (C4 121 t44 2) fun t45 w=>
 o pr E w (A1 3 t45) fun t46 w=>
 o pr E w (A8 .add 3 t46 (vi 1) 3) fun t47 w=>
 o pr E w (C7 t43) fun t48 w=>
 o pr E w (C4 121 t48 2) fun t49 w=>
 o pr E w (A2 3 t49 t47) fun _ w=>
 j3 [t39] w)
  (j3 [(Value.int IntKind.i64 (-1))] w)))
  (o pr E w (A8 .add 3 (e2 17) (vi 1) 3) fun t61 w=>
 I2 [(e2 7),t61] w∧m2 [(e2 7),t61] w<m2 [e2 7,e2 17] w2))
  (K (e2 7) w)) w2) w1)∧
 o pr E w (S1 a2 []) fun t12 w=>
 I1 [(Value.nilIface),t12] w
def C5j:E0:=[(1,[0,1,2,6]),(2,[0,1,2,6,7]),(3,[0,1,2,6,7,8]),(4,[0,1,2,6,7,8,16,17]),(5,[0,1,2,6,7,8,16,17,18]),(6,[0,1,2,6,7,8,9,16,17]),(7,[0,1,2,6,7,8,16,17,26]),(8,[0,1,2,6,7,8,10]),(9,[0,1,2,6,7,8,10,32]),(10,[0,1,2,6,7,8,10]),(11,[0,1,2,6,7,8,10]),(12,[0,1,2,6,7,8,10]),(13,[0,1,2,6,7,8,16,17]),(14,[7])]
theorem B8Z(a0 a1 a2:Value)(w:World)(R:Ye)
 (h:B6h (fun v w=>R (.returned v) w) (fun c w=>R (.panicked c) w) a0 a1 a2 w):Calls pr A8J #[a0,a1,a2] w R:=
 B8 (A:=C5j) D4 E3 Go.Proofs.Tryz.func116 kr kr kr
  (Eq.mp kr h)
def B2a(K:Yv)(E:B7)(a0:Value)(w:World):Prop:=
 o pr E w (A3o (.func A1L) [a0] []) fun t5 w=>
 cl pr E w A8J #[a0,(Value.string (S [42,47,37])),t5] fun t6 w=>
 K t6 w
def C0T:E0:=[(1,[0])]
theorem B5b(a0:Value)(w:World)(R:Ye)
 (h:B2a (fun v w=>R (.returned v) w) (fun c w=>R (.panicked c) w) a0 w):Calls pr A5q #[a0] w R:=
 B8 (A:=C0T) D4 E3 Go.Proofs.Tryz.func117 kr kr kr
  (Eq.mp kr h)
def B1S(K:Yv)(E:B7)(a0:Value)(w:World):Prop:=
 o pr E w (A1 343 (G 1)) fun t5 w=>
 ∃(I1:Yl) (m1:Yn),I1 [(vi 0)] w∧
 ∀(e1:Nat→Value) w1,I1 [e1 6] w1→(fun w=>
 o pr E w (A8 .lss 3 (e1 6) (vi 6) 3) fun t7 w=>
 B6 t7 (o pr E w (R1 343 t5 (e1 6)) fun t9 w=>
 o pr E w (E9 .eql 9 a0 t9 9) fun t12 w=>
 B6 t12 (K (e1 6) w)
  (o pr E w (A8 .add 3 (e1 6) (vi 1) 3) fun t14 w=>
 I1 [t14] w∧m1 [t14] w<m1 [e1 6] w1))
  (K (Value.int IntKind.i64 (-1)) w)) w1
def C0L:E0:=[(1,[0]),(2,[0,5,6]),(3,[0,5,6,7]),(4,[0,3,4,5,6]),(5,[0,3,5,6,12]),(6,[0,5,6]),(7,[])]
theorem B4T(a0:Value)(w:World)(R:Ye)
 (h:B1S (fun v w=>R (.returned v) w) (fun c w=>R (.panicked c) w) a0 w):Calls pr A8E #[a0] w R:=
 B8 (A:=C0L) D4 E3 Go.Proofs.Tryz.func154 kr kr kr
  (Eq.mp kr h)
def A0U(K:Yv)(E:B7)(a0 a1 a2:Value)(w:World):Prop:=
 ∃j1:Yl,(∀(e1:Nat→Value) w,j1 [] w→
 cl pr E w A1r #[a0,a1] fun _ w=>
 o pr E w (C7 a0) fun t25 w=>
 o pr E w (C4 123 t25 3) fun t26 w=>
 o pr E w (A1 3 t26) fun t27 w=>
 o pr E w (A8 .add 3 t27 (vi 1) 3) fun t28 w=>
 o pr E w (C7 a0) fun t29 w=>
 o pr E w (C4 123 t29 3) fun t30 w=>
 o pr E w (A2 3 t30 t28) fun _ w=>
 o pr E w (S1 a2 []) fun t32 w=>
 o pr E w (C7 a0) fun t34 w=>
 o pr E w (C4 123 t34 3) fun t35 w=>
 o pr E w (A1 3 t35) fun t36 w=>
 o pr E w (A8 .sub 3 t36 (vi 1) 3) fun t37 w=>
 o pr E w (C7 a0) fun t38 w=>
 o pr E w (C4 123 t38 3) fun t39 w=>
 o pr E w (A2 3 t39 t37) fun _ w=>
 K t32 w)∧
 (fun(k1:Yv)=>
 cl pr E w X2 #[a0] fun t9 w=>
 o pr E w (E9 .eql 9 t9 a1 9) fun t11 w=>
 D8 t11 true (o pr E w (C7 a0) fun t14 w=>
 o pr E w (C4 123 t14 3) fun t15 w=>
 o pr E w (A1 3 t15) fun t16 w=>
 o pr E w (A8 .eql 3 t16 (vi 12) 3) fun t17 w=>
 o pr E w (D1 t11 t17 (Value.bool false)) fun t18_1 w=>
 k1 t18_1 w)
  (o pr E w (D1 t11 undef (Value.bool false)) fun t18_2 w=>
 k1 t18_2 w))
 (fun t18 w=>
 B6 t18 (cl pr E w A0v #[a0,(vi 3)] fun _ w=>
 j1 [] w)
  (j1 [] w))
def A4G:E0:=[(1,[0,1,2]),(2,[0,1,2,18]),(3,[0,1,2]),(4,[0,2]),(5,[0,2]),(6,[0,7]),(7,[7])]
theorem A3h(a0 a1 a2:Value)(w:World)(R:Ye)
 (h:A0U (fun v w=>R (.returned v) w) (fun c w=>R (.panicked c) w) a0 a1 a2 w):Calls pr X1 #[a0,a1,a2] w R:=
 B8 (A:=A4G) D4 E3 Go.Proofs.Tryz.func155 kr kr kr
  (Eq.mp kr h)
def B6e(K:Yv)(E:B7)(a0:Value)(w:World):Prop:=
 o pr E w (H1 118 a0) fun t1 w=>
 o pr E w (A1 118 t1) fun t6 w=>
 cl pr E w X2 #[t6] fun t7 w=>
 o pr E w (A8 .eql 9 t7 (Value.string (S [45])) 9) fun t9 w=>
 B6 t9 (o pr E w (A1 118 t1) fun t10 w=>
 o pr E w (A3o (.func A3x) [] [t1]) fun t11 w=>
 cl pr E w A1E #[t10,(Value.string (S [45])),t11] fun t12 w=>
 K t12 w)
  (o pr E w (A8 .eql 9 t7 (Value.string (S [40])) 9) fun t14 w=>
 B6 t14 (o pr E w (A1 118 t1) fun t15 w=>
 o pr E w (A1 118 t1) fun t16 w=>
 o pr E w (A3o (.func A1M) [t16] []) fun t17 w=>
 cl pr E w A1E #[t15,(Value.string (S [40])),t17] fun t18 w=>
 o pr E w (A1 118 t1) fun t19 w=>
 cl pr E w A1r #[t19,(Value.string (S [41]))] fun _ w=>
 K t18 w)
  (o pr E w (A1 118 t1) fun t22 w=>
 cl pr E w A1q #[t22] fun t23 w=>
 o pr E w (A8 .geq 3 t23 (vi 0) 3) fun t25 w=>
 B6 t25 (o pr E w (A1 118 t1) fun t26 w=>
 cl pr E w A0O #[t26] fun _ w=>
 o pr E w (D0 277 [(0,t23)]) fun t29 w=>
 o pr E w (H1 277 t29) fun t30 w=>
 o pr E w (X9 275 t30) fun t31 w=>
 K t31 w)
  (∃j1:Yl,(∀(e1:Nat→Value) w,j1 [e1 5] w→
 o pr E w (A1 118 t1) fun t38 w=>
 cl pr E w A0O #[t38] fun _ w=>
 (fun w=>
 oa pr w (A1 118 t1) fun t40=>
 oz pr (C7 t40) fun t41=>
 oz pr (C4 123 t41 4) fun t42=>
 oa pr w (A1 70 t42) fun t43=>
 oa pr w (A1 118 t1) fun t44=>
 oz pr (C7 t44) fun t45=>
 oz pr (C4 123 t45 4) fun t46=>
 oa pr w (A1 70 t46) fun t47=>
 oz pr (C7 t47) fun t48=>
 oz pr (C4 121 t48 3) fun t49=>
 oa pr w (A1 22 t49) fun t50=>
 o pr E w (F2 22 1 [(0,(e1 5))]) fun t52 w=>
 rk pr w (A1 22 t49) t50∧
 rk pr w (A1 70 t46) t47∧
 rk pr w (A1 118 t1) t44∧
 rk pr w (A1 70 t42) t43∧
 rk pr w (A1 118 t1) t40∧
 o pr E w (sB .append [22,22] 22 [t50,t52]) fun t53 w=>
 rk pr w (A1 70 t42) t43∧
 rk pr w (A1 118 t1) t40∧
 oz pr (C7 t43) fun t54=>
 oz pr (C4 121 t54 3) fun t55=>
 o pr E w (A2 22 t55 t53) fun _ w=>
 o pr E w (A9c 3 40 (e1 5)) fun t57 w=>
 o pr E w (D0 274 [(0,t57)]) fun t58 w=>
 o pr E w (H1 274 t58) fun t59 w=>
 o pr E w (X9 272 t59) fun t60 w=>
 K t60 w) (dr w))∧
 o pr E w (A1 118 t1) fun t32 w=>
 cl pr E w B0t #[t32] fun t33 w=>
 o pr E w (A8 .lss 3 t33 (vi 0) 3) fun t35 w=>
 B6 t35 (o pr E w (A1 118 t1) fun t36 w=>
 cl pr E w A0v #[t36,(vi 2)] fun _ w=>
 j1 [t33] w)
  (j1 [t33] w))))
def C5f:E0:=[(1,[1]),(2,[1,7]),(3,[1,7,8]),(5,[1,13]),(6,[1,3]),(7,[3]),(8,[1]),(9,[1,4]),(10,[1,4,25]),(11,[4]),(12,[1]),(13,[1,5]),(14,[1,5,35]),(15,[1,5]),(16,[1,5]),(17,[5])]
theorem B8T(a0:Value)(w:World)(R:Ye)
 (h:B6e (fun v w=>R (.returned v) w) (fun c w=>R (.panicked c) w) a0 w):Calls pr A1L #[a0] w R:=
 B8 (A:=C5f) D4 E3 Go.Proofs.Tryz.func156 kr kr kr
  (Eq.mp kr h)
def A5J(K:Yv)(E:B7)(a0 a1 a2:Value)(w:World):Prop:=
 ∃j1:Yl,(∀(e1:Nat→Value) w,j1 [] w→
 cl pr E w A1r #[a0,a1] fun _ w=>
 o pr E w (C7 a0) fun t25 w=>
 o pr E w (C4 123 t25 3) fun t26 w=>
 o pr E w (A1 3 t26) fun t27 w=>
 o pr E w (A8 .add 3 t27 (vi 1) 3) fun t28 w=>
 o pr E w (C7 a0) fun t29 w=>
 o pr E w (C4 123 t29 3) fun t30 w=>
 o pr E w (A2 3 t30 t28) fun _ w=>
 o pr E w (S1 a2 []) fun t32 w=>
 o pr E w (C7 a0) fun t34 w=>
 o pr E w (C4 123 t34 3) fun t35 w=>
 o pr E w (A1 3 t35) fun t36 w=>
 o pr E w (A8 .sub 3 t36 (vi 1) 3) fun t37 w=>
 o pr E w (C7 a0) fun t38 w=>
 o pr E w (C4 123 t38 3) fun t39 w=>
 o pr E w (A2 3 t39 t37) fun _ w=>
 K t32 w)∧
 (fun(k1:Yv)=>
 cl pr E w X2 #[a0] fun t9 w=>
 o pr E w (E9 .eql 9 t9 a1 9) fun t11 w=>
 D8 t11 true (o pr E w (C7 a0) fun t14 w=>
 o pr E w (C4 123 t14 3) fun t15 w=>
 o pr E w (A1 3 t15) fun t16 w=>
 o pr E w (A8 .eql 3 t16 (vi 12) 3) fun t17 w=>
 o pr E w (D1 t11 t17 (Value.bool false)) fun t18_1 w=>
 k1 t18_1 w)
  (o pr E w (D1 t11 undef (Value.bool false)) fun t18_2 w=>
 k1 t18_2 w))
 (fun t18 w=>
 B6 t18 (cl pr E w A0v #[a0,(vi 3)] fun _ w=>
 j1 [] w)
  (j1 [] w))
def B2Q:E0:=[(1,[0,1,2]),(2,[0,1,2,18]),(3,[0,1,2]),(4,[0,2]),(5,[0,2]),(6,[0,7]),(7,[7])]
theorem A9p(a0 a1 a2:Value)(w:World)(R:Ye)
 (h:A5J (fun v w=>R (.returned v) w) (fun c w=>R (.panicked c) w) a0 a1 a2 w):Calls pr A1E #[a0,a1,a2] w R:=
 B8 (A:=B2Q) D4 E3 Go.Proofs.Tryz.func185 kr kr kr
  (Eq.mp kr h)
def B1Z(K:Yv)(E:B7)(a0:Value)(w:World):Prop:=
 o pr E w (A1 118 a0) fun t2 w=>
 cl pr E w A1L #[t2] fun t3 w=>
 o pr E w (D0 280 [(0,t3)]) fun t4 w=>
 o pr E w (H1 280 t4) fun t5 w=>
 o pr E w (X9 278 t5) fun t6 w=>
 K t6 w
def C0S:E0:=[(1,[0])]
theorem B5a(a0:Value)(w:World)(R:Ye)
 (h:B1Z (fun v w=>R (.returned v) w) (fun c w=>R (.panicked c) w) a0 w):Calls pr A3x #[a0] w R:=
 B8 (A:=C0S) D4 E3 Go.Proofs.Tryz.func186 kr kr kr
  (Eq.mp kr h)
def B3H(K:Yv)(E:B7)(a0:Value)(w:World):Prop:=
 cl pr E w X2 #[a0] fun t7 w=>
 o pr E w (sB .len [9] 3 [t7]) fun t9 w=>
 ∃(I1:Yl) (m1:Yn),I1 [(vi 0),(vi 0)] w∧
 ∀(e1:Nat→Value) w1,I1 [e1 4,e1 10] w1→(fun w=>
 o pr E w (E9 .lss 3 (e1 10) t9 3) fun t11 w=>
 B6 t11 ((fun(k6:Yv)=>
 o pr E w (R1 9 t7 (e1 10)) fun t15 w=>
 cl pr E w A1S #[t15] fun t16 w=>
 o pr E w (sUn .not 4 t16) fun t17 w=>
 D8 t17 false (o pr E w (A8 .gtr 3 (e1 10) (vi 0) 3) fun t20 w=>
 (fun(q1:Yv)=>
 D8 t20 true (o pr E w (A8 .eql 3 (e1 4) (vi 0) 3) fun t23 w=>
 q1 t23 w)
  (q1 undef w))
 (fun t23_1 w=>
 o pr E w (D1 t20 t23_1 (Value.bool false)) fun t24 w=>
 o pr E w (D1 t17 (Value.bool true) t24) fun t25 w=>
 D8 t25 false (o pr E w (A8 .gtr 3 (e1 4) (vi 32767) 3) fun t28 w=>
 o pr E w (D1 t25 (Value.bool true) t28) fun t29_1 w=>
 k6 t29_1 w)
  (o pr E w (D1 t25 (Value.bool true) undef) fun t29_2 w=>
 k6 t29_2 w)))
  ((fun(q2:Yv)=>
 D8 undef true (o pr E w (A8 .eql 3 (e1 4) (vi 0) 3) fun t23_2 w=>
 q2 t23_2 w)
  (q2 undef w))
 (fun _ w=>
 o pr E w (D1 t17 (Value.bool true) undef) fun t25_1 w=>
 D8 t25_1 false (o pr E w (A8 .gtr 3 (e1 4) (vi 32767) 3) fun t28_1 w=>
 o pr E w (D1 t25_1 (Value.bool true) t28_1) fun t29_3 w=>
 k6 t29_3 w)
  (o pr E w (D1 t25_1 (Value.bool true) undef) fun t29_4 w=>
 k6 t29_4 w))))
 (fun t29 w=>
 B6 t29 (K (Value.int IntKind.i64 (-1)) w)
  (o pr E w (B2j .mul 3 (vi 10) (e1 4) 3) fun t31 w=>
 o pr E w (R1 9 t7 (e1 10)) fun t34 w=>
 o pr E w (A8 .sub 5 t34 (Value.int IntKind.u8 48) 5) fun t35 w=>
 o pr E w (A9c 5 3 t35) fun t36 w=>
 o pr E w (E9 .add 3 t31 t36 3) fun t37 w=>
 o pr E w (A8 .add 3 (e1 10) (vi 1) 3) fun t38 w=>
 I1 [t37,t38] w∧m1 [t37,t38] w<m1 [e1 4,e1 10] w1)))
  ((fun(k10:Yv)=>
 o pr E w (A8 .eql 9 t7 (Value.string (S [])) 9) fun t40 w=>
 D8 t40 false (o pr E w (A8 .gtr 3 (e1 4) (vi 32767) 3) fun t43 w=>
 o pr E w (D1 t40 (Value.bool true) t43) fun t44_1 w=>
 k10 t44_1 w)
  (o pr E w (D1 t40 (Value.bool true) undef) fun t44_2 w=>
 k10 t44_2 w))
 (fun t44 w=>
 B6 t44 (K (Value.int IntKind.i64 (-1)) w)
  (K (e1 4) w)))) w1
def C2Y:E0:=[(1,[0]),(2,[3]),(3,[3,4]),(4,[3,4,9,10]),(5,[3,4,9,10,11]),(6,[3,4,5,9,10]),(7,[3,4,5,9,10,29]),(8,[3,4,5,9,10]),(9,[3,4,9,10]),(10,[3,4]),(11,[4,44]),(12,[4])]
theorem B6Q(a0:Value)(w:World)(R:Ye)
 (h:B3H (fun v w=>R (.returned v) w) (fun c w=>R (.panicked c) w) a0 w):Calls pr B0t #[a0] w R:=
 B8 (A:=C2Y) D4 E3 Go.Proofs.Tryz.func187 kr kr kr
  (Eq.mp kr h)
end Go.Inv
namespace Go.Inv
open Go.Sh
def A4Z(K:Yv)(E:B7)(a0:Value)(w:World):Prop:=
 o pr E w (H1 193 a0) fun t1 w=>
 o pr E w (C4 193 t1 0) fun t3 w=>
 o pr E w (A1 3 t3) fun t4 w=>
 K t4 w
def B1H:E0:=[(1,[1])]
theorem A8p(a0:Value)(w:World)(R:Ye)
 (h:A4Z (fun v w=>R (.returned v) w) (fun c w=>R (.panicked c) w) a0 w):Calls pr R3 #[a0] w R:=
 B8 (A:=B1H) D4 E3 Go.Proofs.Tryz.func81 kr kr kr
  (Eq.mp kr h)
def A4w(K:Yv)(E:B7)(a0:Value)(w:World):Prop:=
 o pr E w (A8 .xor 209 a0 (vi 1) 209) fun t4 w=>
 K t4 w
def B0w:E0:=[(1,[0])]
theorem A7u(a0:Value)(w:World)(R:Ye)
 (h:A4w (fun v w=>R (.returned v) w) (fun c w=>R (.panicked c) w) a0 w):Calls pr A2b #[a0] w R:=
 B8 (A:=B0w) D4 E3 Go.Proofs.Tryz.func162 kr kr kr
  (Eq.mp kr h)
end Go.Inv
namespace Go.Inv
open Go.Sh
def A4Q(RD:World→Prop)(E:B7)(a0 t13 t2 t3:Value)(w:World):Prop:=
 cl pr E w A0O #[t13] fun t16 w=>
 ∃j1:Yl,(∀(e1:Nat→Value) w,j1 [] w→
 o pr E w (C7 t13) fun t35 w=>
 o pr E w (C4 123 t35 4) fun t36 w=>
 o pr E w (A1 70 t36) fun t37 w=>
 o pr E w (C7 t37) fun t38 w=>
 o pr E w (C4 121 t38 1) fun t39 w=>
 o pr E w (A1 3 t39) fun t40 w=>
 o pr E w (A8 .add 3 t40 (vi 1) 3) fun t41 w=>
 o pr E w (C7 t37) fun t42 w=>
 o pr E w (C4 121 t42 1) fun t43 w=>
 o pr E w (A2 3 t43 t41) fun _ w=>
 o pr E w (C7 t13) fun t45 w=>
 o pr E w (C4 123 t45 4) fun t46 w=>
 o pr E w (A1 70 t46) fun t47 w=>
 o pr E w (A2 70 t2 t47) fun _ w=>
 o pr E w (A2 30 t3 (Value.nilIface)) fun _ w=>
 RD w)∧
 (fun w=>
 oz pr (C7 t13) fun t18=>
 oz pr (C4 123 t18 4) fun t19=>
 oa pr w (A1 70 t19) fun t20=>
 cl pr E w T8 #[t13] fun t22 w=>
 rk pr w (A1 70 t19) t20∧
 oz pr (C7 t20) fun t23=>
 oz pr (C4 121 t23 0) fun t24=>
 o pr E w (A2 119 t24 t22) fun _ w=>
 o pr E w (C7 t13) fun t26 w=>
 o pr E w (C4 123 t26 1) fun t27 w=>
 o pr E w (A1 3 t27) fun t28 w=>
 o pr E w (sB .len [9] 3 [a0]) fun t30 w=>
 o pr E w (E9 .lss 3 t28 t30 3) fun t31 w=>
 B6 t31 (cl pr E w A0v #[t13,(vi 2)] fun t33 w=>
 j1 [] w)
  (j1 [] w)) (dr w)
def B1R(K:Yv)(E:B7)(a0:Value)(w:World):Prop:=
 o pr E w (B4 70) fun t2 w=>
 o pr E w (B4 30) fun t3 w=>
 o pr E w (sB .len [9] 3 [a0]) fun t6 w=>
 o pr E w (A8 .gtr 3 t6 (vi 400) 3) fun t7 w=>
 B6 t7 (o pr E w (X9 33 (vi 1)) fun t8 w=>
 o pr E w (A2 70 t2 (Value.pointer none)) fun _ w=>
 o pr E w (A2 30 t3 t8) fun _ w=>
 rs pr w t2 70 fun v0_0=>
 rs pr w t3 30 fun v1_1=>
 K (.tuple #[v0_0,v1_1]) w)
  (o pr E w (D0 121 []) fun t10 w=>
 o pr E w (H1 121 t10) fun t11 w=>
 o pr E w (D0 123 [(0,a0),(4,t11)]) fun t12 w=>
 o pr E w (H1 123 t12) fun t13 w=>
 o pr E w (A3o (.func A0t) [] [t2,t3]) fun t14 w=>
 fnV t14∧
 (fun(RK:World→Prop)=>A4Q (fun w=>dfr pr t14 RK E .returning w) (fun c w=>dfr pr t14 RK E (.panicking c) w) a0 t13 t2 t3 w) (fun w=>
 rs pr w t2 70 fun v0_2=>
 rs pr w t3 30 fun v1_3=>
 K (.tuple #[v0_2,v1_3]) w))
def C0K:E0:=[(1,[0,2,3]),(2,[0,2,3,7]),(3,[0,2,3]),(4,[0,2,3,4]),(5,[0,2,3,4]),(6,[0,2,3,4]),(7,[0,2,3,4]),(8,[2,3,4,31]),(9,[2,3,4]),(10,[2,3,4])]
theorem B4S(a0:Value)(w:World)(R:Ye)
 (h:B1R (fun v w=>R (.returned v) w) (fun c w=>R (.panicked c) w) a0 w):Calls pr B0p #[a0] w R:=
 C5F (A:=C0K) D4 E3 Go.Proofs.Tryz.func32 kr kr kr
  (Eq.mp kr h)
def A4R(K:Yv)(E:B7)(a0 a1 rv:Value)(w:World):Prop:=
 o pr E w (A8 .neq 20 rv (Value.nilIface) 20) fun t7 w=>
 B6 t7 (∃j1:Yl,(∀(e1:Nat→Value) w,j1 [e1 3] w→
 o pr E w (X9 74 (e1 3)) fun t17 w=>
 o pr E w (A2 70 a0 (Value.pointer none)) fun _ w=>
 o pr E w (A2 30 a1 t17) fun _ w=>
 K (.tuple #[]) w)∧
 o pr E w (F0 rv 20 74 true) fun t10 w=>
 o pr E w (D6 t10 0) fun t11 w=>
 o pr E w (D6 t10 1) fun t12 w=>
 o pr E w (sUn .not 4 t12) fun t14 w=>
 B6 t14 (o pr E w (B0g rv) fun _ w=>
 j1 [t11] w)
  (j1 [t11] w))
  (K (.tuple #[]) w)
def B6Y:E0:=[(2,[0,1,2,7]),(3,[0,1,2,3,4]),(4,[0,1,2,3,14]),(5,[0,1,3])]
theorem A5I(a0 a1:Value)(u:FrameMode)(w:World)(R:Ending→FrameMode→World→Prop)
 (h:A4R (fun v w=>R (.returned v) (A4T u).2 w) (fun c w=>R (.panicked c) (A4T u).2 w) a0 a1 (A4T u).1 w):CallsD pr A0t #[a0,a1] u w R:=
 C5G (A:=B6Y) D4 E3 Go.Proofs.Tryz.func44 kr kr kr kr kr kr
  (Eq.mp kr h)
end Go.Inv
namespace Go.Inv
open Go.Sh
theorem D6y:I7 pr 33=true:=kr
theorem D6w:I7 pr 74=true:=kr
theorem D7D:A0A pr 78=some 1:=kr
theorem D7B:A0A pr 96=some 9:=kr
theorem C9V:A0A pr 136=some 3:=kr
theorem C8t:I7 pr 139=true:=kr
theorem C3q:C3 pr 28 0=some 0:=kr
theorem C3p:C3 pr 28 1=some 1:=kr
theorem D4m:C3 pr 78 0=some 0:=kr
theorem D4l:C3 pr 80 0=some 0:=kr
theorem D4k:C3 pr 80 1=some 1:=kr
theorem C3h:C3 pr 96 0=some 0:=kr
theorem C3g:C3 pr 96 1=some 1:=kr
theorem B7g:A7W pr 22=true:=kr
theorem D7l:A7W pr 26=true:=kr
theorem D8o:A7W pr 232=true:=kr
theorem so9:A2j pr 9=true:=kr
theorem E1o:A2j pr 76=true:=kr
theorem E1n:A2j pr 82=true:=kr
def RT2:=(yA (yA (yA (yA (yA (yA (H8 pl3) (F5 pl3)) (yA (F4 pl3) (yA (F6 pl3) (H8 B6X)))) (yA (yA (F5 B6X) (F4 B6X)) (yA (F6 B6X) (yA (H8 C2J) (F5 C2J))))) (yA (yA (yA (F4 C2J) (F6 C2J)) (yA (H8 D6y) (yA (F5 D6y) (F4 D6y)))) (yA (yA (F6 D6y) (H8 B1G)) (yA (F5 B1G) (yA (F4 B1G) (F6 B1G)))))) (yA (yA (yA (yA (H8 D6w) (F5 D6w)) (yA (F4 D6w) (yA (F6 D6w) (H8 C8t)))) (yA (yA (F5 C8t) (F4 C8t)) (yA (F6 C8t) (yA (N3 B7j) (J7 B7j))))) (yA (yA (yA (J6 B7j) (J8 B7j)) (yA (N3 D7D) (yA (J7 D7D) (J6 D7D)))) (yA (yA (J8 D7D) (N3 D7B)) (yA (J7 D7B) (yA (J6 D7B) (J8 D7B))))))) (yA (yA (yA (yA (yA (N3 C9V) (J7 C9V)) (yA (J6 C9V) (yA (J8 C9V) (J5 C3q)))) (yA (yA (D7 C3q) (J5 C3p)) (yA (D7 C3p) (yA (J5 D4m) (D7 D4m))))) (yA (yA (yA (J5 D4l) (D7 D4l)) (yA (J5 D4k) (yA (D7 D4k) (J5 C3h)))) (yA (yA (D7 C3h) (J5 C3g)) (yA (D7 C3g) (yA (A1X B7g) (A0b B7g)))))) (yA (yA (yA (yA (A1X D7l) (A0b D7l)) (yA (A1X D8o) (yA (A0b D8o) (A1f so9)))) (yA (yA (Y0 so9) (A1f D0l)) (yA (Y0 D0l) (yA (A1f E1o) (Y0 E1o))))) (yA (yA (yA (A1f E1n) (Y0 E1n)) (yA (T0 ik3 ik3) (yA (M9 ik3 ik3) (T0 ik3 A0R)))) (yA (yA (M9 ik3 A0R) (T0 A0R ik3)) (yA (M9 A0R ik3) (yA (T0 A0R A0R) (M9 A0R A0R))))))))
def Zz17:=yA @RT2<|@RG
def B0f(K:Yv)(E:B7)(a0:Value)(w:World):Prop:=
 o pr E w (B4 74) fun t4 w=>
 o pr E w (B4 33) fun t5 w=>
 o pr E w (A8 .eql 30 a0 (Value.nilIface) 30) fun t8 w=>
 B6 t8 (K (.tuple #[(vi 0),(vi 0)]) w)
  (o pr E w (X9 76 t4) fun t11 w=>
 cl pr E w A0X #[a0,t11] fun t12 w=>
 B6 t12 ((fun w=>
 oa pr w (A1 74 t4) fun t13=>
 oz pr (C7 t13) fun t14=>
 oz pr (C4 80 t14 1) fun t15=>
 oa pr w (A1 33 t15) fun t16=>
 oa pr w (A1 74 t4) fun t17=>
 oz pr (C7 t17) fun t18=>
 oz pr (C4 80 t18 0) fun t19=>
 oa pr w (A1 78 t19) fun t20=>
 cl pr E w A3z #[t20] fun t21 w=>
 rk pr w (A1 33 t15) t16∧
 rk pr w (A1 74 t4) t13∧
 K (.tuple #[t16,t21]) w) (dr w))
  (o pr E w (X9 82 t5) fun t24 w=>
 cl pr E w A0X #[a0,t24] fun t25 w=>
 B6 t25 (o pr E w (A1 33 t5) fun t26 w=>
 K (.tuple #[t26,(vi 0)]) w)
  (K (.tuple #[(Value.int IntKind.i64 (-1)),(vi 0)]) w)))
def C5p:E0:=[(1,[0]),(2,[0,4]),(3,[0,4,5]),(4,[0,4,5,6]),(6,[0,4,5,9]),(8,[5,22]),(9,[])]
theorem B0e(a0:Value)(w:World)(R:Ye)
 (h:B0f (fun v w=>R (.returned v) w) (fun c w=>R (.panicked c) w) a0 w):Calls pr A6j #[a0] w R:=
 B8 (A:=C5p) D4 E3 Go.Proofs.Tryz.func15 kr kr kr
  (Eq.mp kr h)
def A8t(K:Yv)(E:B7)(a0 a1:Value)(w:World):Prop:=
 ∃j1:Yl,(∀(e1:Nat→Value) w,j1 [] w→
 o pr E w (S1 (Fu A0k) [a1]) fun t14 w=>
 o pr E w (B4 136) fun t5 w=>
 o pr E w (A2 136 t5 t14) fun _ w=>
 ∃j2:Yl,(∀(e2:Nat→Value) w,j2 [e2 6] w→
 ∃j3:Yl,(∀(e3:Nat→Value) w,j3 [e3 7] w→
 o pr E w (A1 136 t5) fun t39 w=>
 cl pr E w A0W #[a0,a1,t39,(e3 7)] fun t41 w=>
 K t41 w)∧
 o pr E w (G7 (e2 6) "Elem" []) fun t26 w=>
 (fun(k10:Yv)=>
 o pr E w (G7 t26 "Kind" []) fun t28 w=>
 o pr E w (A8 .neq 141 t28 (Value.int IntKind.u8 20) 141) fun t29 w=>
 D8 t29 true (o pr E w (A1 139 (G 0)) fun t32 w=>
 o pr E w (G7 t26 "Implements" [t32]) fun t33 w=>
 o pr E w (sUn .not 4 t33) fun t34 w=>
 o pr E w (D1 t29 t34 (Value.bool false)) fun t35_1 w=>
 k10 t35_1 w)
  (o pr E w (D1 t29 undef (Value.bool false)) fun t35_2 w=>
 k10 t35_2 w))
 (fun t35 w=>
 B6 t35 (o pr E w (X9 9 (Value.string (S [101,114,114,111,114,115,58,32,42,116,97,114,103,101,116,32,109,117,115,116,32,98,101,32,105,110,116,101,114,102,97,99,101,32,111,114,32,105,109,112,108,101,109,101,110,116,32,101,114,114,111,114]))) fun t36 w=>
 o pr E w (B0g t36) fun _ w=>
 j3 [t26] w)
  (j3 [t26] w)))∧
 o pr E w (A1 136 t5) fun t15 w=>
 o pr E w (S1 (Fu A4U) [t15]) fun t16 w=>
 (fun(k7:Yv)=>
 o pr E w (G7 t16 "Kind" []) fun t18 w=>
 o pr E w (A8 .neq 141 t18 (Value.int IntKind.u8 22) 141) fun t19 w=>
 D8 t19 false (o pr E w (A1 136 t5) fun t21 w=>
 o pr E w (S1 (Fu A1T) [t21]) fun t22 w=>
 o pr E w (D1 t19 (Value.bool true) t22) fun t23_1 w=>
 k7 t23_1 w)
  (o pr E w (D1 t19 (Value.bool true) undef) fun t23_2 w=>
 k7 t23_2 w))
 (fun t23 w=>
 B6 t23 (o pr E w (X9 9 (Value.string (S [101,114,114,111,114,115,58,32,116,97,114,103,101,116,32,109,117,115,116,32,98,101,32,97,32,110,111,110,45,110,105,108,32,112,111,105,110,116,101,114]))) fun t24 w=>
 o pr E w (B0g t24) fun _ w=>
 j2 [t16] w)
  (j2 [t16] w)))∧
 o pr E w (A8 .eql 30 a0 (Value.nilIface) 30) fun t9 w=>
 B6 t9 (K (Value.bool false) w)
  (o pr E w (A8 .eql 20 a1 (Value.nilIface) 20) fun t11 w=>
 B6 t11 (o pr E w (X9 9 (Value.string (S [101,114,114,111,114,115,58,32,116,97,114,103,101,116,32,99,97,110,110,111,116,32,98,101,32,110,105,108]))) fun t12 w=>
 o pr E w (B0g t12) fun _ w=>
 j1 [] w)
  (j1 [] w))
def C3b:E0:=[(1,[0,1]),(2,[0,1,9]),(3,[0,1]),(4,[0,1,11]),(5,[0,1]),(6,[0,1,5]),(7,[0,1,5,6]),(8,[0,1,5,6,23]),(9,[0,1,5,6]),(10,[0,1,5,7]),(11,[0,1,5,7,35]),(12,[0,1,5,7])]
theorem A9b(a0 a1:Value)(w:World)(R:Ye)
 (h:A8t (fun v w=>R (.returned v) w) (fun c w=>R (.panicked c) w) a0 a1 w):Calls pr A0X #[a0,a1] w R:=
 B8 (A:=C3b) D4 E3 Go.Proofs.Tryz.func34 kr kr kr
  (Eq.mp kr h)
def A5n(K:Yv)(E:B7)(a0 a1 a2 a3:Value)(w:World):Prop:=
 o pr E w (H1 136 a2) fun t6 w=>
 ∃(I1:Yl) (m1:Yn),I1 [a0] w∧
 ∀(e1:Nat→Value) w1,I1 [e1 0] w1→(fun w=>
 o pr E w (S1 (Fu B0q) [(e1 0)]) fun t17 w=>
 o pr E w (G7 t17 "AssignableTo" [a3]) fun t19 w=>
 B6 t19 (o pr E w (A1 136 t6) fun t20 w=>
 o pr E w (S1 (Fu A2x) [t20]) fun t21 w=>
 o pr E w (S1 (Fu A0k) [(e1 0)]) fun t23 w=>
 o pr E w (S1 (Fu A3t) [t21,t23]) fun _ w=>
 K (Value.bool true) w)
  (o pr E w (F0 (e1 0) 30 226 true) fun t27 w=>
 o pr E w (D6 t27 0) fun t28 w=>
 o pr E w (D6 t27 1) fun t29 w=>
 (fun(k5:Yv)=>
 D8 t29 true (o pr E w (G7 t28 "As" [a1]) fun t34 w=>
 o pr E w (D1 t29 t34 (Value.bool false)) fun t35_1 w=>
 k5 t35_1 w)
  (o pr E w (D1 t29 undef (Value.bool false)) fun t35_2 w=>
 k5 t35_2 w))
 (fun t35 w=>
 B6 t35 (K (Value.bool true) w)
  (o pr E w (F0 (e1 0) 30 229 true) fun t37 w=>
 o pr E w (D6 t37 1) fun t38 w=>
 o pr E w (D6 t37 0) fun t39 w=>
 B6 t38 (o pr E w (G7 t39 "Unwrap" []) fun t41 w=>
 o pr E w (A8 .eql 30 t41 (Value.nilIface) 30) fun t43 w=>
 B6 t43 (K (Value.bool false) w)
  (I1 [t41] w∧m1 [t41] w<m1 [e1 0] w1))
  (o pr E w (F0 (e1 0) 30 231 true) fun t44 w=>
 o pr E w (D6 t44 1) fun t45 w=>
 o pr E w (D6 t44 0) fun t46 w=>
 B6 t45 (o pr E w (G7 t46 "Unwrap" []) fun t48 w=>
 o pr E w (sB .len [232] 3 [t48]) fun t49 w=>
 ∃(I2:Yl) (m2:Yn),I2 [(vi 0)] w∧
 ∀(e2:Nat→Value) w2,I2 [e2 50] w2→(fun w=>
 o pr E w (E9 .lss 3 (e2 50) t49 3) fun t51 w=>
 ∃j3:Yl,(∀(e3:Nat→Value) w,j3 [] w→
 o pr E w (A8 .add 3 (e2 50) (vi 1) 3) fun t61 w=>
 I2 [t61] w∧m2 [t61] w<m2 [e2 50] w2)∧
 B6 t51 (o pr E w (X0 232 t48 (e2 50)) fun t52 w=>
 o pr E w (A1 30 t52) fun t53 w=>
 o pr E w (A8 .eql 30 t53 (Value.nilIface) 30) fun t55 w=>
 B6 t55 (j3 [] w)
  (o pr E w (A1 136 t6) fun t58 w=>
 cl pr E w A0W #[t53,a1,t58,a3] fun t60 w=>
 B6 t60 (K (Value.bool true) w)
  (j3 [] w)))
  (K (Value.bool false) w)) w2)
  (K (Value.bool false) w)))))) w1
def C3a:E0:=[(1,[0,1,3,6]),(2,[0,1,3,6,19]),(3,[]),(4,[0,1,3,6]),(5,[0,1,3,6,9,10]),(6,[0,1,3,6,35]),(7,[0,1,3,6]),(9,[]),(10,[1,3,6,36]),(11,[1,3,6,36,38,39]),(12,[1,3,6,11]),(13,[0,1,3,6]),(14,[0,1,3,6,43]),(16,[1,3,6,36,45,46]),(17,[1,3,6,12]),(18,[1,3,6,48,49,50]),(19,[1,3,6,48,49,50,51]),(20,[1,3,6,14,48,49,50]),(21,[1,3,6,14,48,49,50]),(22,[1,3,6,48,49,50,60]),(23,[1,3,6,48,49,50]),(24,[])]
theorem A4S(a0 a1 a2 a3:Value)(w:World)(R:Ye)
 (h:A5n (fun v w=>R (.returned v) w) (fun c w=>R (.panicked c) w) a0 a1 a2 a3 w):Calls pr A0W #[a0,a1,a2,a3] w R:=
 B8 (A:=C3a) D4 E3 Go.Proofs.Tryz.func54 kr kr kr
  (Eq.mp kr h)
def B9b(K:Yv)(_E:B7)(a0:Value)(w:World):Prop:=
 K a0 w
def C7b:E0:=[(1,[0])]
theorem C0D(a0:Value)(w:World)(R:Ye)
 (h:B9b (fun v w=>R (.returned v) w) (fun c w=>R (.panicked c) w) a0 w):Calls pr B5w #[a0] w R:=
 B8 (A:=C7b) D4 E3 Go.Proofs.Tryz.func18 kr kr kr
  (Eq.mp kr h)
def A5V(K:Yv)(E:B7)(a0:Value)(w:World):Prop:=
 o pr E w (H1 78 a0) fun t1 w=>
 o pr E w (C4 78 t1 0) fun t3 w=>
 o pr E w (A1 3 t3) fun t4 w=>
 K t4 w
def B2Y:E0:=[(1,[1])]
theorem A9x(a0:Value)(w:World)(R:Ye)
 (h:A5V (fun v w=>R (.returned v) w) (fun c w=>R (.panicked c) w) a0 w):Calls pr A3z #[a0] w R:=
 B8 (A:=B2Y) D4 E3 Go.Proofs.Tryz.func35 kr kr kr
  (Eq.mp kr h)
end Go.Inv
namespace Go.Inv
open Go.Sh
def Is(v:Value)(w0:World):Ye:=fun e w'=>e= .returned v∧w'=w0
structure Out(w w':World):Prop where
 os:w'.os=w.os
 output:w'.output=w.output
theorem Out.refl(w:World):Out w w:=⟨rfl,rfl⟩
theorem Out.trans{a b c:World}(h:Out a b)(g:Out b c):Out a c:=⟨g.os.trans h.os,g.output.trans h.output⟩
theorem Out.dr{a b:World}(h:Out a b):Out a (dr b):=⟨h.os,h.output⟩
theorem Out.alloc{a b:World}(h:Out a b)(x:Obj):Out a (b.alloc x):=⟨h.os,h.output⟩
theorem Out.put{a b:World}(h:Out a b){k i:Nat}{v:Value}:Out a (Sh.put b k i v):=⟨h.os,h.output⟩
theorem Out.grown{a b c:World}{row:Option Nat}(h:Out a b)(hg:b.grownBy c row):Out a c:=⟨hg.os.trans h.os,hg.output.trans h.output⟩
structure Fr(B r p:Nat)(w w':World):Prop where
 size:w.heap.size≤w'.heap.size
 old:∀c,c<B→w'.heap[c]?=w.heap[c]?
 keep:∀c cs t f,w.heap[c]?=some (.cells cs t f)→t≠A0L→c≠r→c≠p→w'.heap[c]?=some (.cells cs t f)
 other:∀(c:Nat) (x:Obj),w.heap[c]?=some x→(∀cs t f,x≠Obj.cells cs t f)→w'.heap[c]?=some x
 out:Out w w'
theorem C0J{i:Nat}{v:Value}{x:Obj}(h:∀cs t f,x≠ .cells cs t f):A1C i v x=x:=by
 cases x<;>first|rfl|exact absurd rfl (h _ _ _)
theorem Fr.refl(B r p:Nat)(w:World):Fr B r p w w:=⟨Nat.le_refl _,fun _ _=>rfl,fun _ _ _ _ h _ _ _=>h,fun _ _ h _=>h,.refl _⟩
theorem Fr.trans{B r p:Nat}{w1 w2 w3:World}(h:Fr B r p w1 w2)(g:Fr B r p w2 w3):Fr B r p w1 w3:=
 ⟨Nat.le_trans h.size g.size,fun c hc=>(g.old c hc).trans (h.old c hc),fun c cs t f h1 h2 h3 h4=>g.keep c cs t f (h.keep c cs t f h1 h2 h3 h4) h2 h3 h4,fun c x h1 h2=>g.other c x (h.other c x h1 h2) h2,h.out.trans g.out⟩
theorem Fr.dr{B r p:Nat}{w1 w2:World}(h:Fr B r p w1 w2):Fr B r p w1 (dr w2):=⟨h.size,h.old,h.keep,h.other,h.out.dr⟩
theorem Fr.alloc{B r p:Nat}{w1 w2:World}(h:Fr B r p w1 w2)(hB:B≤w1.heap.size)(x:Obj):Fr B r p w1 (w2.alloc x):=by
 have hs:=h.size;refine⟨by rw[C1];omega,fun c hc=>?_,fun c cs t f h1 h2 h3 h4=>?_,fun c y h1 h2=>?_,h.out.alloc _⟩
 ·rw[D3 om];exact h.old c hc
 ·have:=h.keep c cs t f h1 h2 h3 h4;have hc:c<w2.heap.size:=(Array.getElem?_eq_some_iff.1 this).1;rw[D3 om];exact this
 ·have:=h.other c y h1 h2;have hc:c<w2.heap.size:=(Array.getElem?_eq_some_iff.1 this).1;rw[D3 om];exact this
theorem Fr.put{B r p b i:Nat}{v:Value}{w1 w2:World}(h:Fr B r p w1 w2)(hB:B≤b)(hb:b=r∨b=p∨w1.heap.size≤b):Fr B r p w1 (put w2 b i v):=by
 refine⟨by rw[G2];exact h.size,fun c hc=>?_,fun c cs t f h1 h2 h3 h4=>?_,fun c y h1 h2=>?_,h.out.put⟩
 ·rw[A7 om];exact h.old c hc
 ·have hlt:c<w1.heap.size:=(Array.getElem?_eq_some_iff.1 h1).1;rw[A7 (by rcases hb with hb|hb|hb<;>omega)];exact h.keep c cs t f h1 h2 h3 h4
 ·have:=h.other c y h1 h2;by_cases hc:c=b
  ·subst hc;rw[C6,this,Option.map_some,C0J h2]
  ·rw[A7 hc];exact this
def A0B(B:Nat)(w:World)(v:Value)(l:List Nat):Prop:=w.ownsRow B A0L 1 v l.length (l.map fun n:Nat=>vi n)
def C8i:Array Value:=#[.string (S [60]),.string (S [62,61]),.string (S [60,61]),.string (S [62]),.string (S [61,61]),.string (S [33,61])]
def A4X(w:World):Prop:=∃t f,w.heap[D4b]?=some (.cells C8i t f)
structure I9(src:A6)(B r p:Nat)(w:World)(st:RS):Prop where
 rd:w.heap[r]?=some (.cells #[.string (S src),vi st.at_,vi st.en,vi st.op,pt p 0] A9N)
 pg:∃nv,w.heap[p]?=some (.cells #[.slice none 0 0,vi st.points,vi st.sites,nv] A3S)∧A0B B w nv st.nums
 rB:B≤r
 pB:B≤p
 rp:r≠p
 rl:A4X w
 gB:D4b<B
theorem I9.dr{src:A6}{B r p:Nat}{w:World}{st:RS}(h:I9 src B r p w st):I9 src B r p (dr w) st:=⟨h.rd,h.pg,h.rB,h.pB,h.rp,h.rl,h.gB⟩
theorem B9{w:World}{c:Nat}{x:Obj}(h:w.heap[c]?=some x):c<w.heap.size:=(Array.getElem?_eq_some_iff.1 h).1
theorem A0B.keep{B:Nat}{w w':World}{v:Value}{l:List Nat}(h:A0B B w v l)(hk:∀(c:Nat) (cs:Array Value),w.heap[c]?=some (Obj.cells cs A0L)→w'.heap[c]?=some (Obj.cells cs A0L)):A0B B w' v l:=by
 refine⟨h.1,?_⟩;rcases h.2 with h|⟨nb,cap,c,h1,h2,h3,h4⟩
 ·exact .inl h
 ·exact .inr ⟨nb,cap,c,h1,h2,hk _ _ h3,h4⟩
theorem I9.put_rd{src:A6}{B r p:Nat}{w:World}{st st':RS}(h:I9 src B r p w st){i:Nat}{v:Value}
 (hc:#[.string (S src),vi st.at_,vi st.en,vi st.op,pt p 0].setIfInBounds i v=#[.string (S src),vi st'.at_,vi st'.en,vi st'.op,pt p 0])
 (h1:st'.points=st.points)(h2:st'.sites=st.sites)(h3:st'.nums=st.nums):I9 src B r p (put w r i v) st':=by
 obtain⟨nv,hp,hn⟩:=h.pg;refine⟨?_,⟨nv,?_,?_⟩,h.rB,h.pB,h.rp,?_,h.gB⟩
 ·rw[C6,h.rd,M6,hc]
 ·rw[A7 h.rp.symm,hp,h1,h2]
 ·rw[h3];refine hn.keep fun c cs hcs=>?_;have:c≠r:=fun e=>by rw[e,h.rd]at hcs;cases hcs
  rw[A7 this,hcs]
 ·obtain⟨t,f,hl⟩:=h.rl;have h1:=h.rB;have h2:=h.gB;exact⟨t,f,by rw[A7 om];exact hl⟩
theorem I9.put_en{src:A6}{B r p:Nat}{w:World}{st:RS}(h:I9 src B r p w st)(n:Nat):I9 src B r p (put w r 2 (vi n)) {st with en:=n}:=
 h.put_rd rfl rfl rfl rfl
theorem I9.put_at{src:A6}{B r p:Nat}{w:World}{st:RS}(h:I9 src B r p w st)(n:Nat):I9 src B r p (put w r 1 (vi n)) {st with at_:=n}:=
 h.put_rd rfl rfl rfl rfl
theorem I9.put_op{src:A6}{B r p:Nat}{w:World}{st:RS}(h:I9 src B r p w st)(n:Nat):I9 src B r p (put w r 3 (vi n)) {st with op:=n}:=
 h.put_rd rfl rfl rfl rfl
theorem I9.put_pg{src:A6}{B r p:Nat}{w:World}{st st':RS}(h:I9 src B r p w st){i:Nat}{v:Value}
 (hc:∀nv,#[.slice none 0 0,vi st.points,vi st.sites,nv].setIfInBounds i v=#[.slice none 0 0,vi st'.points,vi st'.sites,nv])
 (h1:st'.at_=st.at_)(h2:st'.en=st.en)(h3:st'.op=st.op)(h4:st'.nums=st.nums):I9 src B r p (put w p i v) st':=by
 obtain⟨nv,hp,hn⟩:=h.pg;refine⟨?_,⟨nv,?_,?_⟩,h.rB,h.pB,h.rp,?_,h.gB⟩
 ·rw[A7 h.rp,h.rd,h1,h2,h3]
 ·rw[C6,hp,M6,hc]
 ·rw[h4];refine hn.keep fun c cs hcs=>?_;have:c≠p:=fun e=>by rw[e,hp]at hcs;cases hcs
  rw[A7 this,hcs]
 ·obtain⟨t,f,hl⟩:=h.rl;have h1:=h.pB;have h2:=h.gB;exact⟨t,f,by rw[A7 om];exact hl⟩
theorem I9.put_points{src:A6}{B r p:Nat}{w:World}{st:RS}(h:I9 src B r p w st)(n:Nat):I9 src B r p (put w p 1 (vi n)) {st with points:=n}:=
 h.put_pg (fun _=>rfl) rfl rfl rfl rfl
theorem I9.put_sites{src:A6}{B r p:Nat}{w:World}{st:RS}(h:I9 src B r p w st)(n:Nat):I9 src B r p (put w p 2 (vi n)) {st with sites:=n}:=
 h.put_pg (fun _=>rfl) rfl rfl rfl rfl
theorem I9.alloc{src:A6}{B r p:Nat}{w:World}{st:RS}(h:I9 src B r p w st)(x:Obj):I9 src B r p (w.alloc x) st:=by
 obtain⟨nv,hp,hn⟩:=h.pg;have hr:=B9 h.rd;have hp':=B9 hp;refine⟨?_,⟨nv,?_,?_⟩,h.rB,h.pB,h.rp,?_,h.gB⟩
 ·rw[D3 om,h.rd]
 ·rw[D3 om,hp]
 ·refine hn.keep fun c cs hcs=>?_;have:=B9 hcs;rw[D3 om,hcs]
 ·obtain⟨t,f,hl⟩:=h.rl;have:=B9 hl;exact⟨t,f,by rw[D3 om];exact hl⟩
theorem I9.B_le{src:A6}{B r p:Nat}{w:World}{st:RS}(h:I9 src B r p w st):B≤w.heap.size:=by
 have:=B9 h.rd;have:=h.rB;omega
end Go.Inv
namespace Go.Inv
open Go.Sh
abbrev vb(c:UInt8):Value:=.int .u8 (c.toNat:Int)
theorem B6s(c:UInt8):A0I c=(decide ((97:Int)≤(c.toNat:Int))&&decide ((c.toNat:Int)≤122)):=by
 rw[Bool.eq_iff_iff];simp[A0I];omega
theorem C0a(c:UInt8):T5 c=(decide ((48:Int)≤(c.toNat:Int))&&decide ((c.toNat:Int)≤57)):=by
 rw[Bool.eq_iff_iff];simp[T5];omega
theorem C1W(c:UInt8)(w:World):Calls pr A2n #[vb c] w (Is (.bool (A0I c)) (w)):=by
 refine B3z _ _ _ ?_;unfold A9T;simp only[↓RG,RV];rw[B6s];refine T9 (fun h=>?_) (fun h=>?_)
 ·rw[h];simp only[↓RG,RV,yC];exact⟨rfl,rfl⟩
 ·rw[ne_eq,Bool.not_eq_true]at h;rw[h];simp only[↓RG,RV,yC];exact⟨rfl,rfl⟩
theorem B9Z(c:UInt8)(w:World):Calls pr A1S #[vb c] w (Is (.bool (T5 c)) (w)):=by
 refine B4U _ _ _ ?_;unfold B1T;simp only[↓RG,RV];rw[C0a];refine T9 (fun h=>?_) (fun h=>?_)
 ·rw[h];simp only[↓RG,RV,yC];exact⟨rfl,rfl⟩
 ·rw[ne_eq,Bool.not_eq_true]at h;rw[h];simp only[↓RG,RV,yC];exact⟨rfl,rfl⟩
theorem D0J(src:A6)(st:RS):B3Q src st.at_ st.en=L5 src st:=by simp[B3Q,L5]
theorem A1J{src:A6}{B r p:Nat}{w:World}{st:RS}(h:I9 src B r p w st)(h2:st.at_≤st.en)(h3:st.en≤src.length):
 Calls pr X2 #[pt r 0] w (Is (.string (S (L5 src st))) (dr w)):=by
 have hr:=h.rd;refine B8U _ _ _ ?_;unfold B6f;have hc:X7 src st.at_ st.en=some (.string (S (L5 src st))):=by
  rw[←D0J];unfold X7;rw[if_pos om]
 simp only[↓Zz2,RV,hr,hc];exact⟨rfl,rfl⟩
end Go.Inv
namespace Go.Inv
open Go.Sh
def A1D(f:UInt8→Bool)(src:A6)(i:Nat):Nat:=i+((src.drop i).takeWhile f).length
theorem A2F{f:UInt8→Bool}{src:A6}{i:Nat}{c:UInt8}(h:src[i]?=some c)(hc:f c=true):A1D f src i=A1D f src (i+1):=by
 have hi:i<src.length:=(List.getElem?_eq_some_iff.1 h).1;have:src.drop i=c::src.drop (i+1):=by
  rw[List.drop_eq_getElem_cons hi];congr 1;exact(List.getElem?_eq_some_iff.1 h).2
 unfold A1D;rw[this,List.takeWhile_cons,if_pos hc,List.length_cons];omega
theorem A5X{f:UInt8→Bool}{src:A6}{i:Nat}{c:UInt8}(h:src[i]?=some c)(hc:f c=false):A1D f src i=i:=by
 have hi:i<src.length:=(List.getElem?_eq_some_iff.1 h).1;have:src.drop i=c::src.drop (i+1):=by
  rw[List.drop_eq_getElem_cons hi];congr 1;exact(List.getElem?_eq_some_iff.1 h).2
 unfold A1D;rw[this,List.takeWhile_cons,hc];simp
theorem A7E{f:UInt8→Bool}{src:A6}{i:Nat}(h:src.length≤i):A1D f src i=i:=by
 unfold A1D;rw[List.drop_eq_nil_of_le h];simp
theorem M5{src:A6}{i:Nat}{c:UInt8}(h:src[i]?=some c):A7r src (i:Int)=some (vb c):=by
 unfold A7r;rw[if_pos om];simp[h]
def Rd1(src:A6)(B r p:Nat)(w:World)(v:Value)(st:RS):Ye:=fun e w'=>
 e= .returned v∧Fr B r p w w'∧I9 src B r p w' st
def E2F(r:Nat)(w:World):Nat:=match H4 (w.heap[r]?) 2 with
 |some (.int _ n)=>n.toNat
 |_=>0
theorem C4R{src:A6}{B r p bx nf:Nat}{w:World}{st:RS}{f:UInt8→Bool}(h:I9 src B r p w st)(hlen:st.en≤src.length)(hsm:src.length≤400)
 (hbx:w.heap[bx]?=some (.cells #[pt r 0] E6))(hnf:A3J pr nf=true)(hof:∀c w,Calls pr nf #[vb c] w (Is (.bool (f c)) w)):
 Calls pr A6O #[Fu nf,pt bx 0] w (Rd1 src B r p w (.tuple #[]) {st with en:=A1D f src st.en}):=by
 refine B6R _ _ _ _ ?_;unfold B3I;refine⟨fun _ w'=>∃k,k≤src.length∧I9 src B r p w' {st with en:=k}∧Fr B r p w w'∧A1D f src k=A1D f src st.en,fun _ w'=>src.length- E2F r w',⟨st.en,hlen,h,Fr.refl _ _ _ _,rfl⟩,?_⟩;rintro _ w1 ⟨k,hk,hrd,hfr,hrun⟩;have hr:=hrd.rd;have hb:w1.heap[bx]?=some (.cells #[pt r 0] E6):=by
  refine hfr.keep _ _ _ _ hbx (by decide) ?_ ?_
  ·intro e;rw[e,h.rd]at hbx;cases hbx
  ·intro e;obtain⟨_,hp,_⟩:=h.pg;rw[e,hp]at hbx;cases hbx
 simp only[↓Zz2,RV,hr,hb];by_cases hlt:k<src.length
 ·obtain⟨c,hc⟩:∃c,src[k]?=some c:=⟨src[k],by simp[hlt]⟩;have hd:decide ((k:Int)<(src.length:Int))=true:=by simp[hlt]
  simp only[hd,↓Zz2,RV,hr,hb,M5 hc,↓A2H hnf];refine A9 (hof c _) ?_;rintro e w2 ⟨rfl,rfl⟩;simp only[C5,yC];cases hfc:f c with
  |true=>
   have hw:IntKind.i64.wrap ((k:Int)+1)=((k+1:Nat):Int):=by rw[H2 om om];omega
   simp only[↓Zz2,RV,hr,hb,hw];refine⟨⟨k+1,om,?_,?_,?_⟩,?_⟩
   ·exact hrd.dr.put_en (k+1)
   ·exact hfr.dr.put h.rB (.inl rfl)
   ·rw[←A2F hc hfc];exact hrun
   ·unfold E2F;rw[C6,Q8,hr];simp[A1C,H4];omega
  |false=>
   simp only[↓Zz2,RV];refine⟨rfl,hfr.dr,?_⟩;have:A1D f src st.en=k:=by rw[←hrun];exact A5X hc hfc
   rw[this];exact hrd.dr
 ·have hd:decide ((k:Int)<(src.length:Int))=false:=by simp;omega
  simp only[hd,↓Zz2,RV,yC];refine⟨rfl,hfr.dr,?_⟩;have:A1D f src st.en=k:=by rw[←hrun];exact A7E om
  rw[this];exact hrd.dr
end Go.Inv
namespace Go.Inv
open Go.Sh
theorem bq(c d:UInt8):(((c.toNat:Nat):Int)==((d.toNat:Nat):Int))=(c==d):=by
 rw[Bool.eq_iff_iff,beq_iff_eq,beq_iff_eq];constructor
 ·intro h;exact UInt8.toNat_inj.1 om
 ·intro h;rw[h]
theorem bqs(c:UInt8):(((c.toNat:Int)==60)=(c==60))∧(((c.toNat:Int)==62)=(c==62))∧(((c.toNat:Int)==61)=(c==61))∧(((c.toNat:Int)==33)=(c==33))∧
 (((c.toNat:Int)==43)=(c==43))∧(((c.toNat:Int)==45)=(c==45))∧(((c.toNat:Int)==42)=(c==42))∧(((c.toNat:Int)==47)=(c==47))∧(((c.toNat:Int)==37)=(c==37))∧
 (((c.toNat:Int)==40)=(c==40))∧(((c.toNat:Int)==41)=(c==41))∧(((c.toNat:Int)==123)=(c==123))∧(((c.toNat:Int)==125)=(c==125))∧(((c.toNat:Int)==59)=(c==59))∧
 (((c.toNat:Int)==32)=(c==32))∧(((c.toNat:Int)==10)=(c==10)):=
 ⟨bq c 60,bq c 62,bq c 61,bq c 33,bq c 43,bq c 45,bq c 42,bq c 47,bq c 37,bq c 40,bq c 41,bq c 123,bq c 125,bq c 59,bq c 32,bq c 10⟩
def Zz57:=yA @RV<|yA @T7<|yA @A1t<|yA @A0P<|yA @Y4<|@bqs
theorem A8m(c:UInt8)(r:A6):A7r (c::r) 0=some (vb c):=rfl
def Zz58:=yA @RV<|yA @T7<|yA @A1t<|yA @A0P<|yA @Y4<|@A8m
def Zz38:=yA @RV<|@A8m
theorem B8y(c d:UInt8)(r:A6):A7r (c::d::r) 1=some (vb d):=rfl
theorem D5K(c:UInt8)(r:A6)(w:World):Calls pr B0o #[.string (S (c::r))] w (Is (vi (O1 (c::r))) w):=by
 refine B6J _ _ _ ?_;unfold B3y;have hK:∀(n:Nat),O1 (c::r)=n→Is (vi (O1 (c::r))) w (.returned (vi n)) w:=fun n h=>by rw[h];exact⟨rfl,rfl⟩
 generalize hR:Is (vi (O1 (c::r))) w=R at hK⊢;refine⟨fun _ w'=>w'=w∧O1 (c::r)=0,?_,?_⟩
 ·rintro _ w' ⟨rfl,h⟩;exact hK 0 h
 simp only[↓Zz2,Zz38];refine⟨fun vs w'=>vs=[.bool (c==60||c==62||c==61)]∧w'=w,?_,?_⟩
 ·rintro e w' ⟨he,rfl⟩;have he5:e 5= .bool (c==60||c==62||c==61):=by simpa using he
  rw[he5];refine D2 (fun h=>?_) (fun h=>?_)
  ·cases r with
   |nil=>
    simp only[↓Zz2,RV,List.length_cons,List.length_nil];simp only[show decide ((((0+1:Nat):Int))>1)=false from rfl,↓Zz2,RV,yC];exact hK 1 (by simp only[O1,h];rfl)
   |cons d r=>
    have hl:decide ((((c::d::r).length:Nat):Int)>1)=true:=by simp;omega
    simp only[↓Zz2,RV,hl,B8y,bqs,yC];refine D2 (fun h1=>?_) (fun h1=>?_)
    ·exact hK 2 (by simp only[O1,h,List.head?_cons];simp at h1;simp[h1])
    ·exact hK 1 (by simp only[O1,h,List.head?_cons];simp at h1;simp[h1])
  ·simp only[↓Zz2,RV,bqs];refine D2 (fun h2=>?_) (fun h2=>?_)
   ·cases r with
    |nil=>
     simp only[↓Zz2,RV,List.length_cons,List.length_nil];simp only[show decide ((((0+1:Nat):Int))>1)=false from rfl,↓Zz2,RV,yC];exact hK 0 (by simp only[O1,h,h2];rfl)
    |cons d r=>
     have hl:decide ((((c::d::r).length:Nat):Int)>1)=true:=by simp;omega
     simp only[↓Zz2,RV,hl,B8y,bqs,yC];refine D2 (fun h1=>?_) (fun h1=>?_)
     ·exact hK 2 (by simp only[O1,h,h2,List.head?_cons];simp at h1;simp[h1])
     ·exact hK 0 (by simp only[O1,h,h2,List.head?_cons];simp at h1;simp[h1])
   ·refine⟨fun vs w''=>vs=[.bool (c==43||c==45||c==42||c==47||c==37||c==40||c==41||c==123||c==125||c==59)]∧w''=w',?_,?_⟩
    ·rintro e w'' ⟨he,rfl⟩;have he5:e 27= .bool (c==43||c==45||c==42||c==47||c==37||c==40||c==41||c==123||c==125||c==59):=by simpa using he
     rw[he5];refine D2 (fun h3=>?_) (fun h3=>?_)
     ·exact hK 1 (by simp only[O1,h,h2,h3];rfl)
     ·exact⟨rfl,by simp only[O1,h,h2,h3];rfl⟩
    ·repeat (first|exact⟨by simp_all,rfl⟩|exact⟨by simp_all,trivial⟩|refine D2 (fun h3=>?_) (fun h3=>?_)|simp only[↓Zz2,RV,bqs])
 ·simp only[bqs]
  repeat (first|exact⟨by simp_all,rfl⟩|exact⟨by simp_all,trivial⟩|refine D2 (fun h3=>?_) (fun h3=>?_)|simp only[↓Zz2,RV,bqs])
end Go.Inv
namespace Go.Inv
open Go.Sh
theorem A5C(c:UInt8):A7j c=(c==32||c==10):=by
 unfold A7j;rw[Bool.eq_iff_iff];simp only[Bool.or_eq_true,beq_iff_eq];constructor
 ·rintro(h|h)
  ·exact .inl (UInt8.toNat_inj.1 h)
  ·exact .inr (UInt8.toNat_inj.1 h)
 ·rintro(h|h)<;>rw[h]<;>simp
theorem B0M(b i:Nat):(pt b i).cells=#[pt b i]:=rfl
theorem B3w(src:A6)(i:Nat):V6 src i=A1D A7j src i:=rfl
theorem A7a{src:A6}{k:Nat}{c:UInt8}(h:src[k]?=some c)(hc:A0I c=true):k+U8 (src.drop k)=A1D A0I src k:=by
 have hk:k<src.length:=(List.getElem?_eq_some_iff.1 h).1;have:src.drop k=c::src.drop (k+1):=by
  rw[List.drop_eq_getElem_cons hk];congr 1;exact(List.getElem?_eq_some_iff.1 h).2
 unfold A1D;rw[this];simp only[U8,hc,if_true]
theorem A8k{src:A6}{k:Nat}{c:UInt8}(h:src[k]?=some c)(hl:A0I c=false)(hc:T5 c=true):k+U8 (src.drop k)=A1D T5 src k:=by
 have hk:k<src.length:=(List.getElem?_eq_some_iff.1 h).1;have:src.drop k=c::src.drop (k+1):=by
  rw[List.drop_eq_getElem_cons hk];congr 1;exact(List.getElem?_eq_some_iff.1 h).2
 unfold A1D;rw[this];simp[U8,hc,hl]
theorem B5Q{src:A6}{k:Nat}{c:UInt8}(h:src[k]?=some c)(hl:A0I c=false)(hc:T5 c=false):U8 (src.drop k)=O1 (c::src.drop (k+1))∧src.drop k=c::src.drop (k+1):=by
 have hk:k<src.length:=(List.getElem?_eq_some_iff.1 h).1;have:src.drop k=c::src.drop (k+1):=by
  rw[List.drop_eq_getElem_cons hk];congr 1;exact(List.getElem?_eq_some_iff.1 h).2
 rw[this];exact⟨by simp[U8,hc,hl],rfl⟩
theorem B8r{src:A6}{k:Nat}(h:src.length≤k):U8 (src.drop k)=0:=by
 rw[List.drop_eq_nil_of_le h];rfl
theorem C4I:A3J pr A6O=true:=kr
theorem D0L:A3J pr A2n=true:=kr
theorem D3l:A3J pr A1S=true:=kr
def BlI(src:A6)(w1:World)(i0:Nat)(vs:List Value)(w':World):Prop:=
 ∃k:Nat,k≤src.length∧vs=[vi k]∧w'=w1∧A1D A7j src k=A1D A7j src i0
def B9S:List Value→Nat
 |[.int _ n]=>n.toNat
 |_=>0
def BlM(src:A6)(vs:List Value)(_:World):Nat:=src.length- B9S vs
theorem A4m{src:A6}{B r p:Nat}{w:World}{st:RS}(h:I9 src B r p w st)(hlen:st.en≤src.length)(hsm:src.length≤400):
 Calls pr A0O #[pt r 0] w (Rd1 src B r p w (.tuple #[]) (E2 src st)):=by
 refine C0B _ _ _ ?_;unfold B8W;simp only[↓RG,B0M];have hB:=h.B_le;have hne:w.heap.size≠r:=by have:=B9 h.rd;omega
 have hrd:I9 src B r p (w.alloc (.cells #[pt r 0] E6)) st:=h.alloc _;have hfr:Fr B r p w (w.alloc (.cells #[pt r 0] E6)):=(Fr.refl _ _ _ _).alloc hB _;have hb:(w.alloc (.cells #[pt r 0] E6)).heap[w.heap.size]?=some (.cells #[pt r 0] E6):=A5 _;generalize w.alloc (.cells #[pt r 0] E6)=w1 at hrd hfr hb⊢;generalize w.heap.size=bx at hne hb⊢;have hr:=hrd.rd;simp only[↓Zz2,RV,hr,hb];refine⟨BlI src w1 st.en,BlM src,⟨st.en,hlen,rfl,rfl,rfl⟩,?_⟩;rintro e w2 ⟨k,hk,he,rfl,hrun⟩;have he2:e 2=vi (k:Nat):=by simpa using he
 rw[he2]
 -- behind the blanks
 have rest:∀(d:Prop),(A1D A7j src st.en=k)→True:=fun _ _=>trivial;by_cases hlt:k<src.length
 ·obtain⟨c,hc⟩:∃c,src[k]?=some c:=⟨src[k],by simp[hlt]⟩;have hd:decide ((k:Int)<(src.length:Int))=true:=by simp[hlt]
  simp only[hd,↓Zz2,RV,hr,hb,M5 hc,bqs];cases h32:c==32 with
  |true=>
   have hw:IntKind.i64.wrap ((k:Int)+1)=((k+1:Nat):Int):=by rw[H2 om om];omega
   simp only[↓Zz2,RV,hr,hb,yC,hw];refine⟨⟨k+1,om,rfl,rfl,?_⟩,?_⟩
   ·rw[←A2F hc (by rw[A5C,h32];rfl)];exact hrun
   ·simp[BlM,B9S];omega
  |false=>
   simp only[↓Zz2,RV,hr,hb,yC,M5 hc,bqs];cases h10:c==10 with
   |true=>
    have hw:IntKind.i64.wrap ((k:Int)+1)=((k+1:Nat):Int):=by rw[H2 om om];omega
    simp only[↓Zz2,RV,hr,hb,yC,hw];refine⟨⟨k+1,om,rfl,rfl,?_⟩,?_⟩
    ·rw[←A2F hc (by rw[A5C,h10];simp)];exact hrun
    ·simp[BlM,B9S];omega
   |false=>
    have hk':V6 src st.en=k:=by rw[B3w,←hrun];exact A5X hc (by rw[A5C,h32,h10];rfl)
    have hne':((k:Int)==(src.length:Int))=false:=by simp;omega
    simp only[↓Zz2,RV,hr,hb,A7 hne,hne',M5 hc,Nat.reduceAdd,Nat.reduceLT];have hrd2:I9 src B r p (put (put (dr w2) r 1 (vi (k:Nat))) r 2 (vi (k:Nat))) {st with at_:=k,en:=k}:=(hrd.dr.put_at k).put_en k;have hfr2:Fr B r p w (put (put (dr w2) r 1 (vi (k:Nat))) r 2 (vi (k:Nat))):=(hfr.dr.put h.rB (.inl rfl)).put h.rB (.inl rfl);have hb2:(put (put (dr w2) r 1 (vi (k:Nat))) r 2 (vi (k:Nat))).heap[bx]?=some (.cells #[pt r 0] E6):=by
     rw[A7 hne,A7 hne,Q8,hb]
    generalize put (put (dr w2) r 1 (vi (k:Nat))) r 2 (vi (k:Nat))=w3 at hrd2 hfr2 hb2⊢;have hr2:=hrd2.rd;refine A9 (C1W c _) ?_;rintro _ w4 ⟨rfl,rfl⟩;simp only[C5];cases hl:A0I c with
    |true=>
     simp only[↓Zz2,RV,↓A2H C4I];refine A9 (C4R (f:=A0I) hrd2 (by exact Nat.le_of_lt hlt) hsm hb2 D0L C1W) ?_;rintro _ w5 ⟨rfl,hfr5,hrd5⟩;refine⟨rfl,hfr2.trans hfr5,?_⟩;have e1:E2 src st={st with at_:=k,en:=A1D A0I src k}:=by
      unfold E2;rw[hk',A7a hc hl]
     rw[e1];exact hrd5
    |false=>
     simp only[↓Zz2,RV];refine A9 (B9Z c _) ?_;rintro _ w4 ⟨rfl,rfl⟩;simp only[C5];cases hdg:T5 c with
     |true=>
      simp only[↓Zz2,RV,↓A2H C4I];refine A9 (C4R (f:=T5) hrd2 (by exact Nat.le_of_lt hlt) hsm hb2 D3l B9Z) ?_;rintro _ w5 ⟨rfl,hfr5,hrd5⟩;refine⟨rfl,hfr2.trans hfr5,?_⟩;have e1:E2 src st={st with at_:=k,en:=A1D T5 src k}:=by
       unfold E2;rw[hk',A8k hc hl hdg]
      rw[e1];exact hrd5
     |false=>
      obtain⟨ht,hdrop⟩:=B5Q hc hl hdg;have hcut:X7 src k src.length=some (.string (S (c::src.drop (k+1)))):=by
       unfold X7;rw[if_pos om,←hdrop];simp[B3Q]
      simp only[↓Zz2,RV,hr2,hb2,hcut];refine A9 (D5K c _ _) ?_;rintro _ w5 ⟨rfl,rfl⟩;simp only[C5];have hsl:O1 (c::src.drop (k+1))≤400:=by
       have h1:=B2u (c::src.drop (k+1));have h2:=congrArg List.length hdrop;rw[List.length_drop]at h2;omega
      have hw:IntKind.i64.wrap ((k:Int)+(O1 (c::src.drop (k+1)):Nat))=((k+O1 (c::src.drop (k+1)):Nat):Int):=by
       rw[H2 om om];omega
      simp only[↓Zz2,RV,hr2,hb2,hw,Nat.reduceAdd,Nat.reduceLT];refine⟨rfl,hfr2.dr.put h.rB (.inl rfl),?_⟩;have e1:E2 src st={st with at_:=k,en:=k+O1 (c::src.drop (k+1))}:=by
       unfold E2;rw[hk',ht]
      rw[e1];exact hrd2.dr.put_en _
 ·have hkk:k=src.length:=om;have hk':V6 src st.en=k:=by rw[B3w,←hrun];exact A7E om
  have hd:decide ((k:Int)<(src.length:Int))=false:=by simp;omega
  have he':((k:Int)==(src.length:Int))=true:=by simp;omega
  simp only[hd,↓Zz2,RV,hr,hb,yC,A7 hne,he',Nat.reduceAdd,Nat.reduceLT];refine⟨rfl,(hfr.dr.put h.rB (.inl rfl)).put h.rB (.inl rfl),?_⟩;have e1:E2 src st={st with at_:=k,en:=k}:=by
   unfold E2;rw[hk',B8r om];rfl
  rw[e1];exact(hrd.dr.put_at k).put_en k
end Go.Inv
namespace Go.Inv
open Go.Sh
theorem A4l{t:TypeId}{l:List (Nat×Value)}{v:Value}(h:∀w,(D0 t l).run pr w= .ok (.value v) w):∀E w K,o pr E w (D0 t l) K=K v w:=fun _ w _=>D5 (h w)
theorem A7I{t:TypeId}{l:List (Nat×Value)}{v:Value}(h:∀w,(D0 t l).run pr w= .ok (.value v) w):∀k,oz pr (D0 t l) k=k v:=fun _=>A8B h
theorem C5I(n:Int)(w:World):(D0 D5y [(0,vi n)]).run pr w= .ok (.value (.agg #[vi n])) w:=kr
theorem C5J(n e:Int)(w:World):(D0 B3m [(0,.agg #[vi n]),(1,vi e)]).run pr w= .ok (.value (.agg #[vi n,vi e])) w:=kr
theorem C6r(t:TypeId)(v:Value)(w:World):(B0g (.iface t v)).run pr w= .halt (.panic (.iface t v)) w:=by
 simp[B0g,opc,execOp,ev,Instr.panic,goPanic,Sem.run]
theorem D2O:∀E w K t v,o pr E w (B0g (.iface t v)) K=E [{v:=.iface t v,recovered:=false}] w:=fun _ _ _ _ _=>D6L (C6r _ _ _)
theorem A2W(c:Array Value):(Value.agg c).cells=c:=rfl
def Zz49:=yA @A2W<|@C1
def Zz33:=yA @RV<|yA @A2W<|@C1
def Zz21:=yA @RV<|@A2W
def C3P(w:World)(c:List PanicEntry)(a e:Nat):Prop:=
 ∃b,c=[{v:=.iface F7 (pt b 0),recovered:=false}]∧w.heap[b]?=some (.cells #[vi a,vi e] B3m)
def Rd{α:Type}(src:A6)(B r p:Nat)(w:World)(val:World→Value→α→Prop)(res:P0 α):Ye:=fun e w'=>
 Fr B r p w w'∧match res with
  | .ok a st=>∃v,e= .returned v∧I9 src B r p w' st∧val w' v a
  | .err a x=>∃c,e= .panicked c∧C3P w' c a x
theorem A6k{src:A6}{B r p:Nat}{w:World}{st:RS}(h:I9 src B r p w st)(e:Nat){α:Type}(val:World→Value→α→Prop):
 Calls pr A0v #[pt r 0,vi e] w (Rd src B r p w val (.err st.at_ e)):=by
 refine B0a _ _ _ _ ?_;unfold B0b;have hr:=h.rd;simp only[↓RT,↓RG,Zz21,hr,↓A4l (C5I _),↓A4l (C5J _ _),↓D2O];refine⟨(Fr.refl _ _ _ _).alloc h.B_le _,_,rfl,w.heap.size,rfl,A5 _⟩
def D5l{α:Type}(_:World)(v:Value)(_:α):Prop:=v= .tuple #[]
def D0b(_:World)(v:Value)(n:Nat):Prop:=v=vi n
theorem A1R{src t:A6}{B r p:Nat}{w:World}{st:RS}{res:P0 Unit}(h:I9 src B r p w st)(hw:Wf src st)(hsm:src.length≤400)(hres:V8 src t st=some res):
 Calls pr A1r #[pt r 0,.string (S t)] w (Rd src B r p w D5l res):=by
 refine C0A _ _ _ _ ?_;unfold B8V;unfold V8 at hres;refine⟨fun _ w'=>w'=dr w∧L5 src st=t,?_,?_⟩
 ·rintro _ w' ⟨rfl,ht⟩;rw[ht,if_pos (by simp)]at hres;cases hres;refine A9 (A4m h.dr hw.el hsm) ?_;rintro _ w2 ⟨rfl,hfr,hrd⟩;exact⟨(Fr.refl _ _ _ _).dr.trans hfr,_,rfl,hrd,rfl⟩
 refine A9 (A1J h hw.ae hw.el) ?_;rintro _ w1 ⟨rfl,rfl⟩;simp only[C5,↓Zz2,RV];refine D2 (fun hb=>?_) (fun hb=>?_)
 ·rw[if_neg (by simpa using hb)]at hres;cases hres;refine A9 (A6k (α:=Unit) h.dr 2 D5l) ?_;rintro _ w2 ⟨hfr,c,rfl,hc⟩;exact⟨(Fr.refl _ _ _ _).dr.trans hfr,c,rfl,hc⟩
 ·have ht:L5 src st=t:=by simpa using hb
  first|exact⟨rfl,ht⟩|exact ht
def A6t(t:A6):Int:=match P4 t with
 |some v=>v
 |none=>-1
theorem B0R{n:Nat}(h1:97≤n)(h2:n≤255):IntKind.u8.wrap ((n:Int)- 97)=((n- 97:Nat):Int):=by
 rw[IntKind.wrap_u8];omega
theorem A9I{n:Nat}(h1:48≤n)(h2:n≤255):IntKind.u8.wrap ((n:Int)- 48)=((n- 48:Nat):Int):=by
 rw[IntKind.wrap_u8];omega
theorem A5D{n:Nat}(h:n≤1000000000):IntKind.i64.wrap (n:Int)=(n:Int):=H2 om om
theorem A9M{src:A6}{B r p:Nat}{w:World}{st:RS}(h:I9 src B r p w st)(hw:Wf src st):
 Calls pr A1q #[pt r 0] w (Is (vi (A6t (L5 src st))) (dr w)):=by
 refine A6E _ _ _ ?_;unfold A5T;refine A9 (A1J h hw.ae hw.el) ?_;rintro _ w1 ⟨rfl,rfl⟩;generalize L5 src st=t;simp only[C5,↓Zz2,RV]
 match t with
 |[]=>
  simp only[List.length_nil,show(((0:Nat):Int) !=1)=true from rfl,↓Zz2,RV,yC];exact⟨rfl,rfl⟩
 |c::d::r=>
  have:((((c::d::r).length:Nat):Int) !=1)=true:=by simp[bne];omega
  simp only[this,↓Zz2,RV,yC];exact⟨rfl,rfl⟩
 |[c]=>
  have hc:=c.toNat_lt;simp only[List.length_cons,List.length_nil,show(((0+1:Nat):Int) !=1)=false from rfl,↓Zz2,Zz38,yC];refine T9 (fun h1=>?_) (fun h1=>?_)
  ·rw[h1];simp only[↓Zz2,Zz38,yC];simp only[decide_eq_false_iff_not]at h1;refine D2 (fun h2=>?_) (fun h2=>?_)
   ·simp only[decide_eq_true_eq]at h2;have:A6t [c]=-1:=by simp only[A6t,P4];rw[if_neg om]
    rw[this];exact⟨rfl,rfl⟩
   ·simp only[decide_eq_false_iff_not]at h2;have:A6t [c]=((c.toNat- 97:Nat):Int):=by simp only[A6t,P4];rw[if_pos om]
    simp only[↓Zz2,RV,B0R (show 97≤c.toNat by omega) om,A5D (show c.toNat- 97≤1000000000 by omega)];rw[this];exact⟨rfl,rfl⟩
  ·have h1:decide ((c.toNat:Int)<97)=true:=by revert h1;cases decide ((c.toNat:Int)<97)<;>simp
   rw[h1];simp only[↓Zz2,RV,yC];simp only[decide_eq_true_eq]at h1;have:A6t [c]=-1:=by simp only[A6t,P4];rw[if_neg om]
   rw[this];exact⟨rfl,rfl⟩
theorem D7a{src:A6}{B r p:Nat}{w:World}{st:RS}{res:P0 Nat}(h:I9 src B r p w st)(hw:Wf src st)(hsm:src.length≤400)(hres:A6b src st=some res):
 Calls pr A7P #[pt r 0] w (Rd src B r p w D0b res):=by
 refine B2b _ _ _ ?_;unfold B2z;unfold A6b at hres;refine⟨fun vs w'=>∃v,P4 (L5 src st)=some v∧vs=[vi (v:Nat)]∧w'=dr w,?_,?_⟩
 ·rintro e w' ⟨v,hv,he,rfl⟩;have he3:e 3=vi (v:Nat):=by simpa using he
  rw[hv]at hres;cases hres;rw[he3];refine A9 (A4m h.dr hw.el hsm) ?_;rintro _ w2 ⟨rfl,hfr,hrd⟩;exact⟨(Fr.refl _ _ _ _).dr.trans hfr,_,rfl,hrd,rfl⟩
 refine A9 (A9M h hw) ?_;rintro _ w1 ⟨rfl,rfl⟩;simp only[C5,↓Zz2,RV];unfold A6t;cases hv:P4 (L5 src st)with
 |some v=>
  have:decide ((v:Int)<0)=false:=by simp
  simp only[this,RV]
  first|exact⟨v,rfl,rfl,rfl⟩|exact⟨v,rfl,rfl,trivial⟩
 |none=>
  simp only[show decide ((-1:Int)<0)=true from rfl,RV];rw[hv]at hres;cases hres;refine A9 (A6k (α:=Nat) h.dr 2 D0b) ?_;rintro _ w2 ⟨hfr,c,rfl,hc⟩;exact⟨(Fr.refl _ _ _ _).dr.trans hfr,c,rfl,hc⟩
end Go.Inv
namespace Go.Inv
open Go.Sh
def A7K(t:A6):Int:=match A2m t with
 |some n=>n
 |none=>-1
def E3K(t:A6)(w0:World)(vs:List Value)(w':World):Prop:=
 ∃n k:Nat,vs=[vi n,vi k]∧w'=w0∧k≤t.length∧n≤400000∧M3 t 0 0=M3 (t.drop k) k n
def E2m:List Value→Nat
 |[_,.int _ n]=>n.toNat
 |_=>0
def D7G(t:A6)(vs:List Value)(_:World):Nat:=t.length- E2m vs
theorem B1n{t:A6}(h:M3 t 0 0=none):A7K t=-1:=by unfold A7K A2m;rw[h]
theorem D0O{src:A6}{B r p:Nat}{w:World}{st:RS}(h:I9 src B r p w st)(hw:Wf src st)(hsm:src.length≤400):
 Calls pr B0t #[pt r 0] w (Is (vi (A7K (L5 src st))) (dr w)):=by
 refine B6Q _ _ _ ?_;unfold B3H;refine A9 (A1J h hw.ae hw.el) ?_;rintro _ w1 ⟨rfl,rfl⟩;have htl:(L5 src st).length≤400:=by
  unfold L5;rw[List.length_drop,List.length_take];omega
 generalize L5 src st=t at htl⊢;simp only[C5,↓Zz2,RV];refine⟨E3K t (dr w),D7G t,⟨0,0,rfl,rfl,Nat.zero_le _,Nat.zero_le _,rfl⟩,?_⟩;rintro e w2 ⟨n,k,he,rfl,hk,hn,hl⟩;have he4:e 4=vi (n:Nat):=by simp at he;exact he.1
 have he10:e 10=vi (k:Nat):=by simp at he;exact he.2
 rw[he4,he10];by_cases hlt:k<t.length
 ·obtain⟨c,hc⟩:∃c,t[k]?=some c:=⟨t[k],by simp[hlt]⟩;have hcl:=c.toNat_lt;have hdrop:t.drop k=c::t.drop (k+1):=by
   rw[List.drop_eq_getElem_cons hlt];congr 1;exact(List.getElem?_eq_some_iff.1 hc).2
  rw[hdrop]at hl;have hd:decide ((k:Int)<(t.length:Int))=true:=by simp[hlt]
  simp only[hd,↓Zz2,RV,M5 hc];refine A9 (B9Z c _) ?_;rintro _ w3 ⟨rfl,rfl⟩;simp only[C5,↓Zz2,RV];cases hdg:T5 c with
  |false=>
   simp only[yQ,↓Zz2,RV,yC];rw[B1n (by rw[hl];simp[M3,hdg])];exact⟨rfl,rfl⟩
  |true=>
   simp only[yQ,↓Zz2,RV,yC]
   -- what the round computes when it goes on
   have step:¬((k>0&&n==0)=true)→¬n>32767→
    M3 t 0 0=M3 (t.drop (k+1)) (k+1) (10*n+(c.toNat- 48)):=by
    intro h1 h2;rw[hl];simp only[M3,hdg];rw[if_neg (by simp at h1 h2⊢;exact⟨h1,om⟩)]
   have h48:48≤c.toNat:=by simp[T5]at hdg;omega
   have hw1:IntKind.i64.wrap (10*(n:Int))=((10*n:Nat):Int):=by rw[H2 om om];omega
   have hw2:IntKind.i64.wrap (((10*n:Nat):Int)+((c.toNat- 48:Nat):Int))=((10*n+(c.toNat- 48):Nat):Int):=by rw[H2 om om];omega
   have hw3:IntKind.i64.wrap ((k:Int)+1)=((k+1:Nat):Int):=by rw[H2 om om];omega
   have goes:¬((k>0&&n==0)=true)→¬n>32767→E3K t (dr w) [vi ((10*n+(c.toNat- 48):Nat)),vi ((k+1:Nat))] (dr w)∧
    D7G t [vi ((10*n+(c.toNat- 48):Nat)),vi ((k+1:Nat))] (dr w)<D7G t [vi (n:Nat),vi (k:Nat)] (dr w):=by
    intro h1 h2;refine⟨⟨_,_,rfl,rfl,om,om,step h1 h2⟩,?_⟩;simp[D7G,E2m];omega
   refine T9 (fun hk0=>?_) (fun hk0=>?_)
   ·rw[hk0];simp only[↓Zz2,RV,yC];refine T9 (fun hn0=>?_) (fun hn0=>?_)
    ·rw[hn0];simp only[↓Zz2,RV,yC];refine D2 (fun hb=>?_) (fun hb=>?_)
     ·rw[B1n (by rw[hl];simp[M3,hdg];simp at hb;omega)];exact⟨rfl,rfl⟩
     ·simp only[↓Zz2,RV,M5 hc,hw1,A9I h48 om,A5D (show c.toNat- 48≤1000000000 by omega),hw2,hw3];exact goes (by simp at hn0⊢;intro _;omega) (by simp at hb;omega)
    ·have hn0:((n:Int)==0)=true:=by revert hn0;cases((n:Int)==0)<;>simp
     rw[hn0];simp only[↓Zz2,RV,yC];rw[B1n (by rw[hl];simp[M3,hdg];simp at hk0 hn0;omega)];exact⟨rfl,rfl⟩
   ·have hk0:decide ((k:Int)>0)=false:=by revert hk0;cases decide ((k:Int)>0)<;>simp
    rw[hk0];simp only[↓Zz2,RV,yC];refine D2 (fun hb=>?_) (fun hb=>?_)
    ·rw[B1n (by rw[hl];simp[M3,hdg];simp at hb;omega)];exact⟨rfl,rfl⟩
    ·simp only[↓Zz2,RV,M5 hc,hw1,A9I h48 om,A5D (show c.toNat- 48≤1000000000 by omega),hw2,hw3];exact goes (by simp at hk0⊢;intro _;omega) (by simp at hb;omega)
 ·have hkk:k=t.length:=om;rw[hkk,List.drop_length]at hl;have hd:decide ((k:Int)<(t.length:Int))=false:=by simp;omega
  simp only[hd,↓Zz2,RV];refine T9 (fun ht=>?_) (fun ht=>?_)
  ·rw[ht];simp only[↓Zz2,RV,yC];refine D2 (fun hb=>?_) (fun hb=>?_)
   ·have:A7K t=-1:=by
     unfold A7K A2m;rw[hl];simp only[M3];rw[if_pos (.inr (by simp at hb;omega))]
    rw[this];exact⟨rfl,rfl⟩
   ·have:A7K t=n:=by
     unfold A7K A2m;rw[hl];simp only[M3];rw[if_neg (by simp at ht hb;simp[ht];omega)]
    rw[this];exact⟨rfl,rfl⟩
  ·have ht:(t==[])=true:=by revert ht;cases(t==[])<;>simp
   rw[ht];simp only[↓Zz2,RV,yC];have:A7K t=-1:=by
    unfold A7K A2m;rw[hl];simp only[M3];rw[if_pos (.inl (by simpa using ht))]
   rw[this];exact⟨rfl,rfl⟩
end Go.Inv
namespace Go.Inv
open Go.Sh
abbrev D8M:Nat:=343
def A7d:List A6:=[[60],[62,61],[60,61],[62],[61,61],[33,61]]
theorem D7c:∀(i:Nat) (t:A6) (w:World),A7d[i]?=some t→(R1 D8M (.agg C8i) (vi i)).run pr w= .ok (.value (.string (S t))) w
 |0,_,_,h=>by cases h;kernel_rfl
 |1,_,_,h=>by cases h;kernel_rfl
 |2,_,_,h=>by cases h;kernel_rfl
 |3,_,_,h=>by cases h;kernel_rfl
 |4,_,_,h=>by cases h;kernel_rfl
 |5,_,_,h=>by cases h;kernel_rfl
 |n+6,_,_,h=>by simp[A7d]at h
def B6U(t:A6):Int:=match V7 t with
 |some k=>k
 |none=>-1
def E5d(t:A6)(w0:World)(vs:List Value)(w':World):Prop:=∃i:Nat,vs=[vi i]∧w'=w0∧i≤6∧∀j,j<i→A7d[j]?≠some t
def E3E(vs:List Value)(_:World):Nat:=6- B9S vs
theorem D2G:∀(i:Nat) (t:A6),A7d[i]?=some t→V7 t=some i
 |0,_,h=>by cases h;rfl
 |1,_,h=>by cases h;rfl
 |2,_,h=>by cases h;rfl
 |3,_,h=>by cases h;rfl
 |4,_,h=>by cases h;rfl
 |5,_,h=>by cases h;rfl
 |n+6,_,h=>by simp[A7d]at h
theorem C6z{t:A6}(h:∀j,j<6→A7d[j]?≠some t):V7 t=none:=by
 have h0:=h 0 om;have h1:=h 1 om;have h2:=h 2 om;have h3:=h 3 om;have h4:=h 4 om;have h5:=h 5 om;simp[A7d]at h0 h1 h2 h3 h4 h5;unfold V7;rw[if_neg,if_neg,if_neg,if_neg,if_neg,if_neg]<;>simp<;>intro e<;>simp_all
theorem D2E{t:A6}{w:World}(h:A4X w):Calls pr A8E #[.string (S t)] w (Is (vi (B6U t)) w):=by
 refine B4T _ _ _ ?_;unfold B1S;obtain⟨T,f,hb⟩:=h;have hrow:I0 (w.heap[1]?) 0 6=some (.agg C8i):=by
  rw[show w.heap[1]?=_ from hb];rfl
 simp only[↓Zz2,RV,hrow];refine⟨E5d t w,E3E,⟨0,rfl,rfl,om,fun j hj=>om⟩,?_⟩;rintro e w2 ⟨i,he,rfl,hi,hno⟩;have he6:e 6=vi (i:Nat):=by simpa using he
 rw[he6];by_cases hlt:i<6
 ·obtain⟨u,hu⟩:∃u,A7d[i]?=some u:=⟨A7d[i]'(by simpa[A7d]using hlt),by simp⟩;have hd:decide ((i:Int)<6)=true:=by simp;omega
  have hix:=D7c i u;simp only[hd,↓Zz2,RV];rw[D5 (hix w2 hu)];simp only[↓Zz2,RV];refine D2 (fun hb=>?_) (fun hb=>?_)
  ·have:B6U t=i:=by unfold B6U;rw[D2G i t (by rw[hu];simp at hb;rw[hb])]
   rw[this];exact⟨rfl,rfl⟩
  ·have hw:IntKind.i64.wrap ((i:Int)+1)=((i+1:Nat):Int):=by rw[H2 om om];omega
   simp only[↓Zz2,RV,hw];refine⟨⟨i+1,rfl,rfl,om,fun j hj=>?_⟩,?_⟩
   ·by_cases hji:j=i
    ·rw[hji,hu];simp at hb;simp;exact fun e=>hb e.symm
    ·exact hno j om
   ·simp[E3E,B9S];omega
 ·have hd:decide ((i:Int)<6)=false:=by simp;omega
  simp only[hd,↓Zz2,RV];have:B6U t=-1:=by unfold B6U;rw[C6z (fun j hj=>hno j om)]
  rw[this];exact⟨rfl,rfl⟩
end Go.Inv
namespace Go.Inv
open Go.Sh
def N6(w:World)(b:Nat)(cs:Array Value)(t:Nat):Prop:=w.heap[b]?=some (.cells cs t)
def A1y(t:Nat):Prop:=t≠A0L∧t≠A9N∧t≠A3S
def M8(w w':World):Prop:=∀(c:Nat) (cs:Array Value) (t:Nat),A1y t→N6 w c cs t→N6 w' c cs t
theorem M8.refl(w:World):M8 w w:=fun _ _ _ _ h=>h
theorem M8.trans{a b c:World}(h:M8 a b)(g:M8 b c):M8 a c:=fun x cs t ht hn=>g x cs t ht (h x cs t ht hn)
theorem M8.dr{a b:World}(h:M8 a b):M8 a (dr b):=h
theorem M8.alloc{a b:World}(h:M8 a b)(x:Obj):M8 a (b.alloc x):=fun c cs t ht hn=>by
 have h1:=h c cs t ht hn;have:=B9 h1;unfold N6;rw[D3 om];exact h1
theorem Fr.keepN{src:A6}{B r p:Nat}{w w':World}{st:RS}(h:Fr B r p w w')(hr:I9 src B r p w st):M8 w w':=fun c cs t ht hn=>by
 obtain⟨nv,hp,_⟩:=hr.pg;refine h.keep c cs t _ hn ht.1 ?_ ?_
 ·rintro rfl;have:=hr.rd;rw[hn]at this;cases this;exact ht.2.1 rfl
 ·rintro rfl;rw[hn]at hp;cases hp;exact ht.2.2 rfl
def M7(w:World)(v:Value):Sum→Prop
 | .num n=>∃b,v= .iface A8j (pt b 0)∧N6 w b #[.int .i16 n] C7O
 | .name k=>∃b,v= .iface A4j (pt b 0)∧N6 w b #[vi k] B4L
 | .minus x=>∃b u,v= .iface A3b (pt b 0)∧N6 w b #[u] B7o∧M7 w u x
 | .two s l r site=>∃b u1 u2,v= .iface A8i (pt b 0)∧N6 w b #[.int .u8 s.toNat,u1,u2,vi site] B8p∧M7 w u1 l∧M7 w u2 r
theorem D9M:A1y C7O:=⟨by decide,by decide,by decide⟩
theorem D6U:A1y B4L:=⟨by decide,by decide,by decide⟩
theorem D3s:A1y B7o:=⟨by decide,by decide,by decide⟩
theorem D9L:A1y B8p:=⟨by decide,by decide,by decide⟩
theorem M7.keep{w w':World}(h:M8 w w'):∀{x:Sum} {v:Value},M7 w v x→M7 w' v x
 | .num _,_,⟨b,h1,h2⟩=>⟨b,h1,h _ _ _ D9M h2⟩
 | .name _,_,⟨b,h1,h2⟩=>⟨b,h1,h _ _ _ D6U h2⟩
 | .minus _,_,⟨b,u,h1,h2,h3⟩=>⟨b,u,h1,h _ _ _ D3s h2,h3.keep h⟩
 | .two _ _ _ _,_,⟨b,u1,u2,h1,h2,h3,h4⟩=>⟨b,u1,u2,h1,h _ _ _ D9L h2,h3.keep h,h4.keep h⟩
theorem M7.iface{w:World}:∀{x:Sum} {v:Value},M7 w v x→∃t u,v= .iface t u
 | .num _,_,⟨_,h1,_⟩=>⟨_,_,h1⟩
 | .name _,_,⟨_,h1,_⟩=>⟨_,_,h1⟩
 | .minus _,_,⟨_,_,h1,_⟩=>⟨_,_,h1⟩
 | .two _ _ _ _,_,⟨_,_,_,h1,_⟩=>⟨_,_,h1⟩
def D8D{α:Type}:P0 α→P0 α
 | .ok a st=>.ok a {st with op:=st.op- 1}
 | .err a e=>.err a e
def B1B{α:Type}(src t:A6)(st:RS)(inn:P0 α):P0 α:=
 if L5 src st=t then(if st.op=12 then .err st.at_ 3 else D8D inn)else .err st.at_ 2
def JW(w0:World)(P:Prop)(vs:List Value)(w':World):Prop:=vs=[]∧w'=w0∧P
theorem A8f{α:Type}{src t:A6}{B r p f:Nat}{w:World}{st:RS}{x y:Array Value}{val:World→Value→α→Prop}{inn:P0 α}
 (h:I9 src B r p w st)(hw:Wf src st)(hsm:src.length≤400)(hop:st.op≤12)(hf:A3J pr f=true)
 (hval:∀w w' v a,M8 w w'→val w v a→val w' v a)
 (hin:L5 src st=t→st.op<12→∀w1,Fr B r p w w1→I9 src B r p w1 {E2 src st with op:=st.op+1}→Calls pr f (x++#[]++y) w1 (Rd src B r p w1 val inn))
 (hk:∀a st',L5 src st=t→inn= .ok a st'→st'.op=st.op+1):
 Calls pr A1E #[pt r 0,.string (S t),.func (.func f) x y] w (Rd src B r p w val (B1B src t st inn)):=by
 refine A9p _ _ _ _ _ ?_;unfold A5J;refine⟨JW (dr w) (¬(L5 src st=t∧st.op=12)),?_,?_⟩
 ·rintro _ w' ⟨_,rfl,hno⟩;by_cases ht:L5 src st=t
  ·have hop2:st.op<12:=by
    rcases Nat.lt_or_ge st.op 12 with h'|h'
    ·exact h'
    ·exact absurd ⟨ht,om⟩ hno
   have htake:V8 src t st=some (.ok () (E2 src st)):=by unfold V8;rw[if_pos (by simpa using ht)]
   refine A9 (A1R (t:=t) h.dr hw hsm htake) ?_;rintro _ w2 ⟨hfr,u,rfl,hrd,rfl⟩;have hr2:=hrd.rd;have hw1:IntKind.i64.wrap (((E2 src st).op:Int)+1)=((st.op+1:Nat):Int):=by rw[show(E2 src st).op=st.op from rfl,H2 om om];omega
   simp only[C5,↓Zz2,RV,hr2,hw1,↓A2H hf];have hsz:=h.B_le;have hlt:=B9 h.rd;have hfr3:Fr B r p w (put w2 r 3 (vi (st.op+1:Nat))):=((Fr.refl _ _ _ _).dr.trans hfr).put h.rB (.inl rfl);refine A9 (hin ht hop2 _ hfr3 (hrd.put_op (st.op+1))) ?_;rintro e w3 ⟨hfr4,hres⟩;unfold B1B;rw[if_pos ht,if_neg om];cases inn with
   |err a x=>
    obtain⟨c,rfl,hc⟩:=hres;exact⟨hfr3.trans hfr4,c,rfl,hc⟩
   |ok a st'=>
    obtain⟨v,rfl,hrd5,hv⟩:=hres;have hr5:=hrd5.rd;have ho:=hk a st' ht rfl;have hw2:IntKind.i64.wrap ((st'.op:Int)- 1)=((st'.op- 1:Nat):Int):=by rw[H2 om om];omega
    simp only[C5,↓Zz2,RV,hr5,hw2];have hf6:Fr B r p w3 (put w3 r 3 (vi (st'.op- 1:Nat))):=(Fr.refl _ _ _ _).put h.rB (.inl rfl);exact⟨(hfr3.trans hfr4).put h.rB (.inl rfl),v,rfl,hrd5.put_op _,hval _ _ _ _ (hf6.keepN hrd5) hv⟩
  ·have htake:V8 src t st=some (.err st.at_ 2):=by unfold V8;rw[if_neg (by simpa using ht)]
   refine A9 (A1R (t:=t) h.dr hw hsm htake) ?_;rintro _ w2 ⟨hfr,c,rfl,hc⟩;unfold B1B;rw[if_neg ht];exact⟨(Fr.refl _ _ _ _).dr.trans hfr,c,rfl,hc⟩
 refine A9 (A1J h hw.ae hw.el) ?_;rintro _ w1 ⟨rfl,rfl⟩;have hr:=h.rd;simp only[C5,↓Zz2,RV];refine T9 (fun hb=>?_) (fun hb=>?_)
 ·rw[hb];simp only[↓Zz2,RV,hr,yC];have ht:L5 src st=t:=by simpa using hb
  refine D2 (fun ho=>?_) (fun ho=>?_)
  ·refine A9 (A6k (α:=α) h.dr 3 val) ?_;rintro _ w2 ⟨hfr,c,rfl,hc⟩;unfold B1B;rw[if_pos ht,if_pos (by simp at ho;omega)];exact⟨(Fr.refl _ _ _ _).dr.trans hfr,c,rfl,hc⟩
  ·exact⟨rfl,rfl,fun hh=>by simp at ho;omega⟩
 ·have hb':(L5 src st==t)=false:=by revert hb;cases(L5 src st==t)<;>simp
  rw[hb'];simp only[↓Zz2,RV,yC];exact⟨rfl,rfl,fun hh=>by simp at hb';exact hb' hh.1⟩
theorem A8g{α:Type}{src t:A6}{B r p f:Nat}{w:World}{st:RS}{x y:Array Value}{val:World→Value→α→Prop}{inn:P0 α}
 (h:I9 src B r p w st)(hw:Wf src st)(hsm:src.length≤400)(hop:st.op≤12)(hf:A3J pr f=true)
 (hval:∀w w' v a,M8 w w'→val w v a→val w' v a)
 (hin:L5 src st=t→st.op<12→∀w1,Fr B r p w w1→I9 src B r p w1 {E2 src st with op:=st.op+1}→Calls pr f (x++#[]++y) w1 (Rd src B r p w1 val inn))
 (hk:∀a st',L5 src st=t→inn= .ok a st'→st'.op=st.op+1):
 Calls pr X1 #[pt r 0,.string (S t),.func (.func f) x y] w (Rd src B r p w val (B1B src t st inn)):=by
 refine A3h _ _ _ _ _ ?_;unfold A0U;refine⟨JW (dr w) (¬(L5 src st=t∧st.op=12)),?_,?_⟩
 ·rintro _ w' ⟨_,rfl,hno⟩;by_cases ht:L5 src st=t
  ·have hop2:st.op<12:=by
    rcases Nat.lt_or_ge st.op 12 with h'|h'
    ·exact h'
    ·exact absurd ⟨ht,om⟩ hno
   have htake:V8 src t st=some (.ok () (E2 src st)):=by unfold V8;rw[if_pos (by simpa using ht)]
   refine A9 (A1R (t:=t) h.dr hw hsm htake) ?_;rintro _ w2 ⟨hfr,u,rfl,hrd,rfl⟩;have hr2:=hrd.rd;have hw1:IntKind.i64.wrap (((E2 src st).op:Int)+1)=((st.op+1:Nat):Int):=by rw[show(E2 src st).op=st.op from rfl,H2 om om];omega
   simp only[C5,↓Zz2,RV,hr2,hw1,↓A2H hf];have hsz:=h.B_le;have hlt:=B9 h.rd;have hfr3:Fr B r p w (put w2 r 3 (vi (st.op+1:Nat))):=((Fr.refl _ _ _ _).dr.trans hfr).put h.rB (.inl rfl);refine A9 (hin ht hop2 _ hfr3 (hrd.put_op (st.op+1))) ?_;rintro e w3 ⟨hfr4,hres⟩;unfold B1B;rw[if_pos ht,if_neg om];cases inn with
   |err a x=>
    obtain⟨c,rfl,hc⟩:=hres;exact⟨hfr3.trans hfr4,c,rfl,hc⟩
   |ok a st'=>
    obtain⟨v,rfl,hrd5,hv⟩:=hres;have hr5:=hrd5.rd;have ho:=hk a st' ht rfl;have hw2:IntKind.i64.wrap ((st'.op:Int)- 1)=((st'.op- 1:Nat):Int):=by rw[H2 om om];omega
    simp only[C5,↓Zz2,RV,hr5,hw2];have hf6:Fr B r p w3 (put w3 r 3 (vi (st'.op- 1:Nat))):=(Fr.refl _ _ _ _).put h.rB (.inl rfl);exact⟨(hfr3.trans hfr4).put h.rB (.inl rfl),v,rfl,hrd5.put_op _,hval _ _ _ _ (hf6.keepN hrd5) hv⟩
  ·have htake:V8 src t st=some (.err st.at_ 2):=by unfold V8;rw[if_neg (by simpa using ht)]
   refine A9 (A1R (t:=t) h.dr hw hsm htake) ?_;rintro _ w2 ⟨hfr,c,rfl,hc⟩;unfold B1B;rw[if_neg ht];exact⟨(Fr.refl _ _ _ _).dr.trans hfr,c,rfl,hc⟩
 refine A9 (A1J h hw.ae hw.el) ?_;rintro _ w1 ⟨rfl,rfl⟩;have hr:=h.rd;simp only[C5,↓Zz2,RV];refine T9 (fun hb=>?_) (fun hb=>?_)
 ·rw[hb];simp only[↓Zz2,RV,hr,yC];have ht:L5 src st=t:=by simpa using hb
  refine D2 (fun ho=>?_) (fun ho=>?_)
  ·refine A9 (A6k (α:=α) h.dr 3 val) ?_;rintro _ w2 ⟨hfr,c,rfl,hc⟩;unfold B1B;rw[if_pos ht,if_pos (by simp at ho;omega)];exact⟨(Fr.refl _ _ _ _).dr.trans hfr,c,rfl,hc⟩
  ·exact⟨rfl,rfl,fun hh=>by simp at ho;omega⟩
 ·have hb':(L5 src st==t)=false:=by revert hb;cases(L5 src st==t)<;>simp
  rw[hb'];simp only[↓Zz2,RV,yC];exact⟨rfl,rfl,fun hh=>by simp at hb';exact hb' hh.1⟩
end Go.Inv
namespace Go.Inv
open Go.Sh
def A2v(mul:Bool):A6:=if mul then[42,47,37]else[43,45]
theorem C4c(mul:Bool):(A2v mul).length≤3:=by cases mul<;>decide
theorem D1h{mul:Bool}{i:Nat}{c:UInt8}(h:(A2v mul)[i]?=some c):Q4 mul [c]=true:=by
 cases mul
 ·match i,h with
  |0,h=>cases h;rfl
  |1,h=>cases h;rfl
  |n+2,h=>simp[A2v]at h
 ·match i,h with
  |0,h=>cases h;rfl
  |1,h=>cases h;rfl
  |2,h=>cases h;rfl
  |n+3,h=>simp[A2v]at h
theorem C5r{mul:Bool}{t:A6}(h:∀(i:Nat) (c:UInt8),(A2v mul)[i]?=some c→t≠[c]):Q4 mul t=false:=by
 cases mul
 ·have h0:=h 0 43 rfl;have h1:=h 1 45 rfl;simp[Q4,A2S,h0,h1]
 ·have h0:=h 0 42 rfl;have h1:=h 1 47 rfl;have h2:=h 2 37 rfl;simp[Q4,A2R,h0,h1,h2]
theorem C6i{s:A6}{i:Nat}{c:UInt8}(h:s[i]?=some c):X7 s (i:Int) ((i+1:Nat):Int)=some (.string (S [c])):=by
 obtain⟨hlt,hc⟩:=List.getElem?_eq_some_iff.1 h;have hcc:=h;unfold X7;rw[if_pos ⟨om,om,om⟩];have:B3Q s (i:Int) ((i+1:Nat):Int)=[c]:=by
  unfold B3Q;rw[Int.toNat_natCast,Int.toNat_natCast,List.take_add_one,hcc];simp[List.drop_append,Nat.min_eq_left (Nat.le_of_lt hlt)]
 rw[this]
def D4S(w:World)(r:Nat):Nat:=match w.heap[r]? with
 |some (.cells c _ _)=>match c[1]? with
  |some (Value.int _ n)=>n.toNat
  |_=>0
 |_=>0
theorem B1A{src:A6}{B r p:Nat}{w:World}{st:RS}(h:I9 src B r p w st):D4S w r=st.at_:=by
 unfold D4S;rw[h.rd];simp
def ChL(src:A6)(B r p:Nat)(w0:World)(n:Nat)(mul:Bool)(res:P0 Sum)(vs:List Value)(w:World):Prop:=
 ∃(m:Nat) (x:Sum) (st:RS) (u v:Value),vs=[u,v]∧m≤n∧ex src m (.ch mul x) st=some res∧Fr B r p w0 w∧I9 src B r p w st∧Wf src st∧st.op≤12∧M7 w v x
def ChM(src:A6)(r:Nat)(_:List Value)(w:World):Nat:=src.length- D4S w r
def SgL(mul:Bool)(t:A6)(v:Value)(w0:World)(vs:List Value)(w:World):Prop:=
 ∃i:Nat,vs=[v,vi i]∧w=w0∧i≤(A2v mul).length∧∀(j:Nat) (c:UInt8),j<i→(A2v mul)[j]?=some c→t≠[c]
def SgM(vs:List Value)(_:World):Nat:=match vs with
 |[_,.int _ n]=>3- n.toNat
 |_=>0
def ChJ(src:A6)(B r p:Nat)(w0:World)(st:RS)(t:A6)(vs:List Value)(w:World):Prop:=
 vs=[vi (A3W t st)]∧Fr B r p w0 w∧I9 src B r p w (A4J t st)
theorem E0p(s:UInt8)(t1 t2:Nat)(u1 u2:Value)(site:Int)(w:World):
 (D0 B8p [(0,.int .u8 s.toNat),(1,.iface t1 u1),(2,.iface t2 u2),(3,vi site)]).run pr w= .ok (.value (.agg #[.int .u8 s.toNat,.iface t1 u1,.iface t2 u2,vi site])) w:=kr
theorem C5E{src:A6}{B r p f n:Nat}{w:World}{mul:Bool}{st:RS}{res:P0 Sum}
 (h:I9 src B r p w st)(hw:Wf src st)(hsm:src.length≤400)(hop:st.op≤12)(hf:A3J pr f=true)
 (hpart:∀m,m≤n→∀w1 st1 res1,I9 src B r p w1 st1→Wf src st1→st1.op≤12→ex src m (A2w mul) st1=some res1→Calls pr f #[pt r 0] w1 (Rd src B r p w1 M7 res1))
 (hres:P0.bind (ex src n (A2w mul) st) (fun x st'=>ex src n (.ch mul x) st')=some res):
 Calls pr A8J #[pt r 0,.string (S (A2v mul)),.func (.func f) #[pt r 0] #[]] w (Rd src B r p w M7 res):=by
 refine B8Z _ _ _ _ _ ?_;unfold B6h;refine⟨ChL src B r p w n mul res,ChM src r,?_,?_⟩
 ·rintro e1 w1 ⟨m,x,st1,u,v,he,hm,hex,hfr,hrd,hwf,hop1,hsum⟩;obtain⟨he6,he7⟩:e1 6=u∧e1 7=v:=by simpa using he
  rw[he6,he7];cases m with
  |zero=>simp[ex]at hex
  |succ m=>
  refine A9 (A1J hrd hwf.ae hwf.el) ?_;rintro _ w2 ⟨rfl,rfl⟩;simp only[C5,↓Zz2,RV];refine⟨SgL mul (L5 src st1) v (dr w1),SgM,⟨0,rfl,rfl,om,fun j c hj=>om⟩,?_⟩;rintro e2 w2 ⟨i,he2,rfl,hi,hno⟩;obtain⟨he27,he217⟩:e2 7=v∧e2 17=vi (i:Nat):=by simpa using he2
  rw[he27,he217];have hs3:=C4c mul;by_cases hlt:i<(A2v mul).length
  ·obtain⟨c,hc⟩:∃c,(A2v mul)[i]?=some c:=⟨_,List.getElem?_eq_getElem hlt⟩;have hd:decide ((i:Int)<((A2v mul).length:Int))=true:=by simp;omega
   have hw1:IntKind.i64.wrap ((i:Int)+1)=((i+1:Nat):Int):=by rw[H2 om om];omega
   simp only[hd,↓Zz2,RV,hw1,C6i hc];refine D2 (fun hb=>?_) (fun hb=>?_)
   ·have ht:L5 src st1=[c]:=by simpa using hb
    have hsg:Q4 mul (L5 src st1)=true:=by rw[ht];exact D1h hc
    simp only[ex]at hex;rw[if_pos hsg]at hex;have hb0:=A8a hwf (by rw[ht];simp);have hpos:=A3e hwf (by rw[ht];simp);refine⟨ChJ src B r p w1 st1 (L5 src st1),?_,?_⟩
    ·rintro e3 w3 ⟨he3,hfr3,hrd3⟩;have he10:e3 10=vi (A3W (L5 src st1) st1):=by simpa using he3
     rw[he10];have hlen:(A4J (L5 src st1) st1).en≤src.length:=by unfold A4J;split<;>exact hwf.el
     refine A9 (A4m hrd3 hlen hsm) ?_;rintro _ w4 ⟨rfl,hfr4,hrd4⟩;rw[ht];simp only[C5,↓Zz2,Zz38,↓A2H hf];simp only[ht]at hex hb0;cases hex1:ex src m (A2w mul) (E2 src (A4J [c] st1))with
     |none=>rw[hex1]at hex;simp[P0.bind]at hex
     |some res1=>
     rw[hex1]at hex;have hwf4:=hb0.wf;rw[ht]at hrd4;have hop4:(E2 src (A4J [c] st1)).op≤12:=by rw[hb0.op];exact hop1
     refine A9 (hpart m om (dr w4) _ _ hrd4.dr hwf4 hop4 hex1) ?_;rintro e w5 ⟨hfr5,hres5⟩;cases res1 with
     |err a x=>
      obtain⟨c',rfl,hc'⟩:=hres5;simp only[P0.bind]at hex;cases hex;exact⟨((hfr.trans hfr3).trans hfr4.dr).trans hfr5,c',rfl,hc'⟩
     |ok y st'=>
      obtain⟨v',rfl,hrd5,hv'⟩:=hres5;simp only[P0.bind]at hex;have hk5:=L6 _ _ _ _ _ hwf4 hex1;have hfrt:=(hfr3.trans hfr4.dr).trans hfr5;have hsum5:M7 w5 v x:=hsum.keep (hfrt.keepN hrd);obtain⟨ta,ua,rfl⟩:=hsum.iface;obtain⟨tb,ub,rfl⟩:=hv'.iface;simp only[C5,↓Zz2,Zz21,↓A7I (E0p _ _ _ _ _ _)];have hka:M8 w5 (w5.alloc (.cells #[.int .u8 c.toNat,.iface ta ua,.iface tb ub,vi (A3W [c] st1)] B8p)):=(M8.refl _).alloc _;refine⟨⟨m,_,st',_,_,rfl,om,hex,?_,hrd5.alloc _,hk5.wf,by rw[hk5.op];exact hop4,?_⟩,?_⟩
      ·exact(hfr.trans hfrt).alloc h.B_le _
      ·exact⟨w5.heap.size,_,_,rfl,A5 _,hsum5.keep hka,hv'.keep hka⟩
      ·have e1:D4S (w5.alloc (.cells #[.int .u8 c.toNat,.iface ta ua,.iface tb ub,vi (A3W [c] st1)] B8p)) r=st'.at_:=B1A (hrd5.alloc _);have e2:D4S w1 r=st1.at_:=B1A hrd;have e3:=hk5.ge;have e4:=@A1m src (A4J [c] st1);have e5:(A4J [c] st1).en=st1.en:=by unfold A4J;split<;>rfl
       have e6:=hwf.el;unfold ChM;rw[e1,e2];omega
    ·rw[ht];obtain⟨nv,hpg,hnv⟩:=hrd.pg;have hr1:=hrd.rd;have yes:A9i [c]=true→ChJ src B r p w1 st1 [c] [vi st1.sites] (put (dr w1) p 2 (vi (st1.sites+1:Nat))):=by
      intro hd;refine⟨by unfold A3W;rw[if_pos hd],((Fr.refl _ _ _ _).dr).put h.pB (.inr (.inl rfl)),?_⟩;unfold A4J;rw[if_pos hd];exact hrd.dr.put_sites _
     have hsi:st1.sites≤400:=by have:=hwf.sa;have:=hwf.ae;have:=hwf.el;omega
     have hws:IntKind.i64.wrap ((st1.sites:Int)+1)=((st1.sites+1:Nat):Int):=by rw[H2 om om];omega
     refine T9 (fun h47=>?_) (fun h47=>?_)
     ·rw[h47];simp only[↓Zz2,RV,yC];refine D2 (fun h37=>?_) (fun h37=>?_)
      ·simp only[↓Zz2,RV,hr1,hpg,hws];exact yes (by unfold A9i;rw[h37];simp)
      ·refine⟨?_,(Fr.refl _ _ _ _).dr,?_⟩
       ·unfold A3W A9i;rw[h47,h37];rfl
       ·unfold A4J A9i;rw[h47,h37];exact hrd.dr
     ·have h47:([c]==[47])=true:=by revert h47;cases([c]==[47])<;>simp
      rw[h47];simp only[↓Zz2,RV,yC,hr1,hpg,hws];exact yes (by unfold A9i;rw[h47];rfl)
   ·refine⟨⟨i+1,rfl,rfl,om,fun j d hj hd'=>?_⟩,?_⟩
    ·by_cases hji:j=i
     ·rw[hji,hc]at hd';cases hd';simpa using hb
     ·exact hno j d om hd'
    ·simp[SgM];omega
  ·have hd:decide ((i:Int)<((A2v mul).length:Int))=false:=by simp;omega
   simp only[hd,↓Zz2,RV];have hns:Q4 mul (L5 src st1)=false:=C5r fun j c hj=>by
    have:=(List.getElem?_eq_some_iff.1 hj).1;exact hno j c om hj
   simp only[ex,hns]at hex;cases hex;exact⟨hfr.dr,_,rfl,hrd.dr,hsum.keep (M8.refl w1).dr⟩
 ·simp only[↓A2H hf];cases hex1:ex src n (A2w mul) st with
  |none=>rw[hex1]at hres;simp[P0.bind]at hres
  |some res1=>
  rw[hex1]at hres;refine A9 (hpart n om w _ _ h hw hop hex1) ?_;rintro e w5 ⟨hfr5,hres5⟩;cases res1 with
  |err a x=>
   obtain⟨c',rfl,hc'⟩:=hres5;simp only[P0.bind]at hres;cases hres;exact⟨hfr5,c',rfl,hc'⟩
  |ok y st'=>
   obtain⟨v',rfl,hrd5,hv'⟩:=hres5;simp only[P0.bind]at hres;have hk5:=L6 _ _ _ _ _ hw hex1;exact⟨n,y,st',_,v',rfl,om,hres,hfr5,hrd5,hk5.wf,by rw[hk5.op];exact hop,hv'⟩
end Go.Inv
namespace Go.Inv
open Go.Sh
theorem Fr.grown{B r p:Nat}{w1 w2 w3:World}{row:Option Nat}(h:Fr B r p w1 w2)(hg:w2.grownBy w3 row)(hB:B≤w1.heap.size)
 (hrow:∀k,row=some k→B≤k∧∃cs f,w2.heap[k]?=some (.cells cs A0L f)):Fr B r p w1 w3:=by
 have hs:=h.size;refine⟨Nat.le_trans h.size hg.size,fun c hc=>?_,fun c cs t f h1 h2 h3 h4=>?_,fun c y h1 h2=>?_,h.out.grown hg⟩
 ·rw[hg.block c om (fun e=>by have:=(hrow c e.symm).1;omega)];exact h.old c hc
 ·have h5:=h.keep c cs t f h1 h2 h3 h4;rw[hg.block c (B9 h5) (fun e=>by
   obtain⟨_,cs',f',h6⟩:=hrow c e.symm;rw[h5]at h6;cases h6;exact h2 rfl)]
  exact h5
 ·have h5:=h.other c y h1 h2;rw[hg.block c (B9 h5) (fun e=>by
   obtain⟨_,cs',f',h6⟩:=hrow c e.symm;rw[h5]at h6;cases h6;exact h2 _ _ _ rfl)]
  exact h5
theorem B3S{B:Nat}{w:World}{v:Value}{l:List Nat}(h:A0B B w v l){k:Nat}(hk:v.ownBlock=some k):B≤k∧∃cs f,w.heap[k]?=some (.cells cs A0L f):=by
 rcases h.2 with⟨rfl,_⟩|⟨nb,cap,c,rfl,h2,h3,_⟩
 ·cases hk
 ·cases hk;exact⟨h2,_,_,h3⟩
theorem grown_keep{B:Nat}{w w':World}{v:Value}{l:List Nat}(h:A0B B w v l)(hg:w.grownBy w' v.ownBlock){i:Nat}{cs:Array Value}{t:Nat}{f:Nat×Nat}(hi:w.heap[i]?=some (.cells cs t f))(ht:t≠A0L):
 w'.heap[i]?=some (.cells cs t f):=by
 rw[hg.block i (B9 hi) (fun e=>by
  obtain⟨_,cs',f',h6⟩:=B3S h e.symm;rw[hi]at h6;cases h6;exact ht rfl)]
 exact hi
theorem D3r{t:A6}{k:Nat}(h:A2m t=some k):k≤32767:=by
 unfold A2m at h;split at h
 ·split at h
  ·cases h
  ·rename_i hn;cases h;omega
 ·cases h
theorem C6b{k:Nat}(h:k≤32767):IntKind.i16.wrap (k:Int)=k:=by
 have h1:(k:Int) % 65536=k:=om;simp[IntKind.wrap,IntKind.bits,IntKind.signed,h1];omega
theorem I9.put_nums{src:A6}{B r p:Nat}{w w':World}{st:RS}{nv v':Value}{k:Nat}(h:I9 src B r p w st)
 (hpg:w.heap[p]?=some (.cells #[.slice none 0 0,vi st.points,vi st.sites,nv] A3S))(hnv:A0B B w nv st.nums)
 (hg:w.grownBy w' nv.ownBlock)(hown:w'.ownsRow B A0L 1 v' (st.nums.length+1) ((st.nums.map fun n:Nat=>vi n)++[vi (k:Nat)])):
 I9 src B r p (put w' p 3 v') {st with nums:=st.nums++[k]}:=by
 have hr':=grown_keep hnv hg h.rd (by decide);have hp':=grown_keep hnv hg hpg (by decide);have h1:=h.rB;have h2:=h.pB;have h3:=h.gB;refine⟨?_,⟨v',?_,?_⟩,h.rB,h.pB,h.rp,?_,h.gB⟩
 ·rw[A7 h.rp,hr']
 ·rw[C6,hp',M6];simp
 ·have:A0B B w' v' (st.nums++[k]):=by unfold A0B;simpa using hown
  refine this.keep fun c cs hcs=>?_;have:c≠p:=fun e=>by rw[e,hp']at hcs;cases hcs
  rw[A7 this,hcs]
 ·obtain⟨t,f,hl⟩:=h.rl;refine⟨t,f,?_⟩;rw[A7 om,hg.block _ (B9 hl) (fun e=>by have:=(B3S hnv e.symm).1;omega)];exact hl
theorem E1q:B6D pr 22 A0L:=B9B kr
theorem E0l(n:Int)(w:World):(F2 22 1 [(0,vi n)]).run pr w= .ok (.value (.slice (some ⟨w.heap.size,0,none⟩) 1 1)) (w.alloc (.cells #[vi n] A0L)):=kr
theorem C4L(n:Int):∀E w K,o pr E w (F2 22 1 [(0,vi n)]) K=K (.slice (some ⟨w.heap.size,0,none⟩) 1 1) (w.alloc (.cells #[vi n] A0L)):=fun _ w _=>D5 (E0l n w)
theorem D7x(n:Int)(w:World):(D0 B4L [(0,vi n)]).run pr w= .ok (.value (.agg #[vi n])) w:=kr
theorem E0r(n:Int)(w:World):(D0 C7O [(0,.int .i16 n)]).run pr w= .ok (.value (.agg #[.int .i16 n])) w:=kr
theorem D4P(t:Nat)(u:Value)(w:World):(D0 B7o [(0,.iface t u)]).run pr w= .ok (.value (.agg #[.iface t u])) w:=kr
theorem D3j:A3J pr A1L=true:=kr
theorem D0K:A3J pr A3x=true:=kr
theorem C6I:A3J pr A5q=true:=kr
theorem D3k:A3J pr A1M=true:=kr
def C6P:Option (P0 Sum)→P0 Sum
 |some (.ok x st)=>.ok (.minus x) st
 |some (.err a e)=>.err a e
 |none=>.err 0 0
def C5Y(src:A6)(B r p f:Nat)(n:Nat)(j:Job):Prop:=∀w st res,I9 src B r p w st→Wf src st→st.op≤12→ex src n j st=some res→Calls pr f #[pt r 0] w (Rd src B r p w M7 res)
theorem D0e{src:A6}{B r p n b:Nat}{w:World}{st:RS}{res:Option (P0 Sum)}(hun:C5Y src B r p A1L n .un)(h:I9 src B r p w st)(hw:Wf src st)(hop:st.op≤12)
 (hb:w.heap[b]?=some (.cells #[pt r 0] E6))(hres:ex src n .un st=res)(hsome:res≠none):
 Calls pr A3x #[pt b 0] w (Rd src B r p w M7 (C6P res)):=by
 refine B5a _ _ _ ?_;unfold B1Z;simp only[↓Zz2,RV,hb];cases res with
 |none=>exact absurd rfl hsome
 |some res=>
 refine A9 (hun w st res h hw hop hres) ?_;rintro e w2 ⟨hfr,hr2⟩;cases res with
 |err a x=>
  obtain⟨c,rfl,hc⟩:=hr2;exact⟨hfr,c,rfl,hc⟩
 |ok x st'=>
  obtain⟨v,rfl,hrd,hv⟩:=hr2;obtain⟨t,u,rfl⟩:=hv.iface;simp only[C5,↓Zz2,Zz21,↓A4l (D4P _ _)];exact⟨hfr.alloc h.B_le _,_,rfl,hrd.alloc _,w2.heap.size,_,rfl,A5 _,hv.keep ((M8.refl _).alloc _)⟩
theorem D0Q{t:A6}{k:Nat}(h:A2m t=some k):A7K t=k:=by unfold A7K;rw[h]
theorem D6T{t:A6}(h:A2m t=none):A7K t=-1:=by unfold A7K;rw[h]
theorem B4J{t:A6}{k:Nat}(h:P4 t=some k):A6t t=k:=by unfold A6t;rw[h]
theorem C7L{t:A6}(h:P4 t=none):A6t t=-1:=by unfold A6t;rw[h]
def JN(w0:World)(k:Option Nat)(vs:List Value)(w':World):Prop:=∃n:Nat,k=some n∧vs=[vi n]∧w'=dr w0
theorem D1T{src:A6}{B r p n:Nat}(hsm:src.length≤400)(hun:C5Y src B r p A1L n .un)(hsu:C5Y src B r p A1M n .su):
 C5Y src B r p A1L (n+1) .un:=by
 intro w st res h hw hop hres;refine B8T _ _ _ ?_;unfold B6e;have hB:=h.B_le;simp only[↓Zz2,RV,B0M];generalize hw0:w.alloc (.cells #[pt r 0] E6)=w0;generalize hbe:w.heap.size=b at*;have hb0:w0.heap[b]?=some (.cells #[pt r 0] E6):=by rw[←hw0,←hbe];exact A5 _
 have h0:I9 src B r p w0 st:=by rw[←hw0];exact h.alloc _
 have hf0:Fr B r p w w0:=by rw[←hw0];exact(Fr.refl _ _ _ _).alloc om _
 have ntb:A1y E6:=⟨by decide,by decide,by decide⟩;simp only[hb0,↓Zz2,RV];refine A9 (A1J h0 hw.ae hw.el) ?_;rintro _ w1 ⟨rfl,rfl⟩;simp only[C5,↓Zz2,RV,hb0];simp only[ex]at hres;refine D2 (fun hm=>?_) (fun hm=>?_)
 ·-- minus
  rw[if_pos hm]at hres;have ht:L5 src st=[45]:=by simpa using hm
  have hrw:res=B1B src [45] st (C6P (ex src n .un {E2 src st with op:=st.op+1}))∧(st.op<12→ex src n .un {E2 src st with op:=st.op+1}≠none):=by
   unfold B1B;rw[if_pos ht];by_cases ho:st.op=12
   ·rw[if_pos (by simpa using ho)]at hres;cases hres;exact⟨by rw[if_pos ho],fun _=>om⟩
   ·rw[if_neg (by simpa using ho)]at hres;rw[if_neg ho];rcases H0 hres with⟨x,st',h1,h2⟩|⟨a,e,h1,h2⟩
    ·cases h2;rw[h1];exact⟨rfl,fun _=>by simp⟩
    ·cases h2;rw[h1];exact⟨rfl,fun _=>by simp⟩
  rw[hrw.1]
  refine A9 (A8f (val:=M7) (t:=[45]) (f:=A3x) (x:=#[]) (y:=#[pt b 0]) h0.dr hw hsm hop D0K (fun _ _ _ _ hk=>M7.keep hk)
   (inn:=C6P (ex src n .un {E2 src st with op:=st.op+1})) ?_ ?_) ?_
  ·intro _ ho w1 hfr hrd;exact D0e hun hrd (hw.next.op _) (by show st.op+1≤12;omega) ((hfr.keepN h0.dr) _ _ _ ntb hb0) rfl (hrw.2 ho)
  ·intro a st' _ hi;cases hx:ex src n .un {E2 src st with op:=st.op+1}with
   |none=>rw[hx]at hi;cases hi
   |some q=>
    rw[hx]at hi;cases q with
    |err a e=>cases hi
    |ok y st2=>cases hi;exact(L6 _ _ _ _ _ (hw.next.op _) hx).op
  ·rintro e w2 ⟨hfr,hr2⟩;generalize B1B src [45] st _=q at hr2;cases q with
   |err a x=>obtain⟨c,rfl,hc⟩:=hr2;exact⟨hf0.dr.trans hfr,c,rfl,hc⟩
   |ok x st'=>obtain⟨v,rfl,hrd,hv⟩:=hr2;exact⟨hf0.dr.trans hfr,v,rfl,hrd,hv⟩
 rw[if_neg (by simp[hm])]at hres;refine D2 (fun hm2=>?_) (fun hm2=>?_)
 ·rw[if_pos hm2]at hres;have ht:L5 src st=[40]:=by simpa using hm2
  cases hx:ex src n .su {E2 src st with op:=st.op+1}with
  |none=>
   by_cases ho:st.op=12
   ·rw[if_pos (by simpa using ho)]at hres;cases hres;refine A9 (A8f (val:=M7) (t:=[40]) (f:=A1M) (x:=#[pt r 0]) (y:=#[]) h0.dr hw hsm hop D3k (fun _ _ _ _ hk=>M7.keep hk) (inn:=.err 0 0) (fun _ hh=>om) (fun _ _ _ hh=>by cases hh)) ?_;rintro e w2 ⟨hfr,hr2⟩;unfold B1B at hr2;rw[if_pos ht,if_pos ho]at hr2;obtain⟨c,rfl,hc⟩:=hr2;exact⟨hf0.dr.trans hfr,c,rfl,hc⟩
   ·rw[if_neg (by simpa using ho),hx]at hres;cases hres
  |some q=>
   refine A9 (A8f (val:=M7) (t:=[40]) (f:=A1M) (x:=#[pt r 0]) (y:=#[]) h0.dr hw hsm hop D3k (fun _ _ _ _ hk=>M7.keep hk)
    (inn:=q) ?_ ?_) ?_
   ·intro _ ho w1 hfr hrd;exact hsu _ _ _ hrd (hw.next.op _) (by show st.op+1≤12;omega) hx
   ·intro a st' _ hi;subst hi;exact(L6 _ _ _ _ _ (hw.next.op _) hx).op
   ·rintro e w2 ⟨hfr,hr2⟩;unfold B1B at hr2;rw[if_pos ht]at hr2;by_cases ho:st.op=12
    ·rw[if_pos (by simpa using ho)]at hres;cases hres;rw[if_pos ho]at hr2;obtain⟨c,rfl,hc⟩:=hr2;exact⟨hf0.dr.trans hfr,c,rfl,hc⟩
    ·rw[if_neg (by simpa using ho),hx]at hres;rw[if_neg ho]at hr2;cases q with
     |err a x=>
      cases hres;obtain⟨c,rfl,hc⟩:=hr2;exact⟨hf0.dr.trans hfr,c,rfl,hc⟩
     |ok x st'=>
      obtain⟨v,rfl,hrd,hv⟩:=hr2;have hk5:=L6 _ _ _ _ _ (hw.next.op _) hx;have hb2:w2.heap[b]?=some (.cells #[pt r 0] E6):=(hfr.keepN h0.dr) _ _ _ ntb hb0;simp only[C5,↓Zz2,RV,hb2];simp only[P0.bind]at hres;cases hts:V8 src [41] {st' with op:=st'.op- 1}with
      |none=>rw[hts]at hres;cases hres
      |some q2=>
      rw[hts]at hres;refine A9 (A1R hrd (hk5.wf.op _) hsm hts) ?_;rintro e w3 ⟨hfr3,hr3⟩;cases q2 with
      |err a x=>cases hres;obtain⟨c,rfl,hc⟩:=hr3;exact⟨(hf0.dr.trans hfr).trans hfr3,c,rfl,hc⟩
      |ok u st2=>
       cases hres;obtain⟨_,rfl,hrd3,rfl⟩:=hr3;exact⟨(hf0.dr.trans hfr).trans hfr3,v,rfl,hrd3,hv.keep (hfr3.keepN hrd)⟩
 rw[if_neg (by simp[hm2])]at hres;refine A9 (A9M h0.dr hw) ?_;rintro _ w1 ⟨rfl,rfl⟩;simp only[C5,↓Zz2,RV,hb0];cases hv:P4 (L5 src st)with
 |some v=>
  rw[hv]at hres;cases hres;have:decide ((A6t (L5 src st))≥0)=true:=by rw[B4J hv];simp
  simp only[this,↓Zz2,RV,hb0];rw[B4J hv];refine A9 (A4m h0.dr.dr hw.el hsm) ?_;rintro _ w2 ⟨rfl,hfr,hrd⟩;simp only[C5,↓Zz2,Zz21,↓A4l (D7x _)];exact⟨(hf0.dr.dr.trans hfr).alloc om _,_,rfl,hrd.alloc _,w2.heap.size,rfl,A5 _⟩
 |none=>
  rw[hv]at hres;have:decide ((A6t (L5 src st))≥0)=false:=by rw[C7L hv];rfl
  simp only[this,↓Zz2,RV,hb0];refine⟨JN (dr (dr w0)) (A2m (L5 src st)),?_,?_⟩
  ·rintro e1 w2 ⟨k,hk,he,rfl⟩;have he5:e1 5=vi (k:Nat):=by simpa using he
   rw[he5];rw[hk]at hres;cases hres;simp only[↓Zz2,RV,hb0];have h2:I9 src B r p (dr (dr (dr w0))) st:=h0.dr.dr.dr;refine A9 (A4m h2 hw.el hsm) ?_;rintro _ w2 ⟨rfl,hfr,hrd⟩;have hb2:w2.heap[b]?=some (.cells #[pt r 0] E6):=(hfr.keepN h2) _ _ _ ntb hb0;have hr2:=hrd.rd;obtain⟨nv,hpg,hnv⟩:=hrd.pg;have ea:∀(x:Obj) (i:Nat) (y:Obj),w2.heap[i]?=some y→((dr w2).alloc x).heap[i]?=some y:=fun x i y hy=>by
    have:=B9 hy;rw[D3 (by rw[A8o];omega)];exact hy
   simp only[C5,↓RT,↓RG,RV,hb2,hr2,hpg,↓C4L,ea _ _ _ hb2,ea _ _ _ hr2,ea _ _ _ hpg];have h3:=hrd.dr.alloc (.cells #[vi (k:Nat)] A0L);have hpg3:=ea (.cells #[vi (k:Nat)] A0L) _ _ hpg;have hnv3:A0B B ((dr w2).alloc (.cells #[vi (k:Nat)] A0L)) nv st.nums:=hnv.keep fun c cs hc=>ea _ _ _ hc;have hb3:=ea (.cells #[vi (k:Nat)] A0L) _ _ hb2;have hf3:Fr B r p w ((dr w2).alloc (.cells #[vi (k:Nat)] A0L)):=((hf0.dr.dr.dr.trans hfr).dr).alloc om _;have hna:=hw.na;have hae:=hw.ae;have hel:=hw.el;have hB3:B≤((dr w2).alloc (.cells #[vi (k:Nat)] A0L)).heap.size:=by have:=hf3.size;omega
   refine D0N E1q hnv3 (A5 _) rfl om hB3 ?_;intro v' w' hown hg;have hr4:=grown_keep hnv3 hg h3.rd (by decide);have hp4:=grown_keep hnv3 hg hpg3 (by decide);have hb4:=grown_keep hnv3 hg hb3 (by decide);have hv1:G3 v'=true:=by
    rcases hown.2 with⟨rfl,_⟩|⟨_,_,_,rfl,_⟩<;>rfl
   have h5:=I9.put_nums (k:=k) h3 hpg3 hnv3 hg hown;have hf4:=hf3.grown hg om (fun q hq=>B3S hnv3 hq);have hf5:=hf4.put (i:=3) (v:=v') h.pB (.inr (.inl rfl));simp only[hr4,hp4,hb4,hv1,C6b (D3r hk),↓Zz2,Zz21,↓A4l (E0r _)];exact⟨hf5.alloc om _,_,rfl,h5.alloc _,_,rfl,A5 _⟩
  ·refine A9 (D0O h0.dr.dr hw hsm) ?_;rintro _ w2 ⟨rfl,rfl⟩;simp only[C5,↓Zz2,RV];cases hk:A2m (L5 src st)with
   |some k=>
    rw[D0Q hk];have:decide ((k:Int)<0)=false:=by simp
    simp only[this,↓Zz2,RV];exact⟨k,rfl,rfl,rfl⟩
   |none=>
    rw[D6T hk];rw[hk]at hres;cases hres;simp only[show decide ((-1:Int)<0)=true from rfl,↓Zz2,RV,hb0];refine A9 (A6k (α:=Sum) h0.dr.dr.dr 2 M7) ?_;rintro _ w2 ⟨hfr,c,rfl,hc⟩;exact⟨hf0.dr.dr.dr.trans hfr,c,rfl,hc⟩
theorem D8r{src:A6}{B r p:Nat}(hsm:src.length≤400):∀n,(∀m,m≤n→C5Y src B r p A1L m .un)∧(∀m,m≤n→C5Y src B r p A5q m .pr)∧(∀m,m≤n→C5Y src B r p A1M m .su)
 |0=>by
  refine⟨?_,?_,?_⟩<;>(intro m hm w st res _ _ _ hres;obtain rfl:m=0:=om;simp[ex]at hres)
 |n+1=>by
  obtain⟨h1,h2,h3⟩:=D8r hsm n;refine⟨fun m hm=>?_,fun m hm=>?_,fun m hm=>?_⟩
  ·by_cases hle:m≤n
   ·exact h1 m hle
   ·obtain rfl:m=n+1:=om;exact D1T hsm (h1 n om) (h3 n om)
  ·by_cases hle:m≤n
   ·exact h2 m hle
   ·obtain rfl:m=n+1:=om;intro w st res h hw hop hres;simp only[ex]at hres;refine B5b _ _ _ ?_;unfold B2a;simp only[↓Zz2,RV];refine A9 (C5E (mul:=true) h hw hsm hop D3j (fun m hm w1 st1 res1 a b c d=>h1 m hm w1 st1 res1 a b c d) hres) ?_;rintro e w2 ⟨hfr,hr2⟩;cases res with
    |err a x=>obtain⟨c,rfl,hc⟩:=hr2;exact⟨hfr,c,rfl,hc⟩
    |ok x st'=>obtain⟨v,rfl,hrd,hv⟩:=hr2;exact⟨hfr,v,rfl,hrd,hv⟩
  ·by_cases hle:m≤n
   ·exact h3 m hle
   ·obtain rfl:m=n+1:=om;intro w st res h hw hop hres;simp only[ex]at hres;refine C2u _ _ _ ?_;unfold C1q;simp only[↓Zz2,RV];refine A9 (C5E (mul:=false) h hw hsm hop C6I (fun m hm w1 st1 res1 a b c d=>h2 m hm w1 st1 res1 a b c d) hres) ?_;rintro e w2 ⟨hfr,hr2⟩;cases res with
    |err a x=>obtain⟨c,rfl,hc⟩:=hr2;exact⟨hfr,c,rfl,hc⟩
    |ok x st'=>obtain⟨v,rfl,hrd,hv⟩:=hr2;exact⟨hfr,v,rfl,hrd,hv⟩
theorem B8v{src:A6}{B r p:Nat}(hsm:src.length≤400)(n:Nat):C5Y src B r p A1M n .su:=(D8r hsm n).2.2 n (Nat.le_refl _)
end Go.Inv
namespace Go.Inv
open Go.Sh
theorem C9N(w:World):(B4 U0).run pr w= .ok (.value (pt w.heap.size 0)) (w.alloc (.cells #[.nilIface,.nilIface,vi 0] U0)):=kr
theorem D7y(t:Nat)(u:Value)(w:World):(D0 U0 [(0,.iface t u)]).run pr w= .ok (.value (.agg #[.iface t u,.nilIface,vi 0])) w:=kr
theorem C5S(w:World):(B4 L4).run pr w= .ok (.value (pt w.heap.size 0)) (w.alloc (.cells #[vi 0] L4)):=kr
theorem C5H(n:Int)(w:World):(D0 L4 [(0,vi n)]).run pr w= .ok (.value (.agg #[vi n])) w:=kr
theorem E0s(n v:Int)(w:World):(D0 B3l [(0,.agg #[vi n]),(1,vi v)]).run pr w= .ok (.value (.agg #[vi n,vi v])) w:=kr
theorem E0q(n v:Int)(w:World):(D0 A4t [(0,.agg #[vi n]),(1,vi v)]).run pr w= .ok (.value (.agg #[vi n,vi v,.nilIface])) w:=kr
theorem D1A(n v:Int)(w:World):(D0 X4 [(0,.agg #[vi n]),(2,vi v)]).run pr w= .ok (.value (.agg #[vi n,.nilIface,.nilIface,vi 0,vi v])) w:=kr
theorem E3g(n:Int)(t1 t2:Nat)(u1 u2:Value)(k:Int)(w:World):(D0 A7q [(0,.agg #[vi n]),(1,.agg #[.iface t1 u1,.iface t2 u2,vi k])]).run pr w= .ok (.value (.agg #[vi n,.iface t1 u1,.iface t2 u2,vi k,.slice none 0 0,.slice none 0 0,.bool false])) w:=kr
theorem D4M(n:Int)(t1 t2:Nat)(u1 u2:Value)(k:Int)(w:World):(D0 R9 [(0,.agg #[vi n]),(1,.agg #[.iface t1 u1,.iface t2 u2,vi k])]).run pr w= .ok (.value (.agg #[vi n,.iface t1 u1,.iface t2 u2,vi k,.slice none 0 0])) w:=kr
theorem D7t(t:Nat)(u:Value)(w:World):(F2 119 1 [(0,.iface t u)]).run pr w= .ok (.value (.slice (some ⟨w.heap.size,0,none⟩) 1 1)) (w.alloc (.cells #[.iface t u] A2D)):=kr
theorem E1r:B6D pr 119 A2D:=B9B kr
theorem C6w{P:Program}{w:World}{t n b i:Nat}{v:Value}{K:Value→Prop}(h:A0A P t=some n)(hv:I0 (w.heap[b]?) i n=some v)(hK:K v):rs P w (pt b i) t K:=by
 obtain⟨h1,h2⟩:=A4i (w:=w) h;unfold I0 at hv;split at hv
 ·rename_i c T f hb;split at hv
  ·rename_i hle;cases hv;have:=A4n (P:=P) hb n 0 #[] om;exact⟨_,by simp[asAddr,loadVar,h1,h2,loadCells,this],hK⟩
  ·cases hv
 ·cases hv
theorem D2o{P:Program}{w:World}{t b i:Nat}{v:Value}{K:Value→Prop}(h:I7 P t=true)(hv:H4 (w.heap[b]?) i=some v)(hK:K v):rs P w (pt b i) t K:=by
 have hc:w.cell? ⟨b,i,none⟩=some v:=by rw[A4I];exact hv
 exact⟨v,by simp[asAddr,loadVar,B0E h,load,Sem.run,hc],hK⟩
def A6W(t:Nat):Prop:=t=C7O∨t=B4L∨t=B7o∨t=B8p
def A6Y(w w':World):Prop:=∀(c:Nat) (cs:Array Value) (t:Nat),A6W t→N6 w c cs t→N6 w' c cs t
theorem A6W.node{t:Nat}(h:A6W t):A1y t:=by rcases h with rfl|rfl|rfl|rfl<;>exact⟨by decide,by decide,by decide⟩
theorem M8.keepS{w w':World}(h:M8 w w'):A6Y w w':=fun c cs t ht=>h c cs t ht.node
theorem M7.keepS{w w':World}(h:A6Y w w'):∀{x:Sum} {v:Value},M7 w v x→M7 w' v x
 | .num _,_,⟨b,h1,h2⟩=>⟨b,h1,h _ _ _ (.inl rfl) h2⟩
 | .name _,_,⟨b,h1,h2⟩=>⟨b,h1,h _ _ _ (.inr (.inl rfl)) h2⟩
 | .minus _,_,⟨b,u,h1,h2,h3⟩=>⟨b,u,h1,h _ _ _ (.inr (.inr (.inl rfl))) h2,h3.keepS h⟩
 | .two _ _ _ _,_,⟨b,u1,u2,h1,h2,h3,h4⟩=>⟨b,u1,u2,h1,h _ _ _ (.inr (.inr (.inr rfl))) h2,h3.keepS h,h4.keepS h⟩
theorem M0{w:World}{b i t:Nat}{cs:Array Value}{v:Value}(hb:N6 w b cs t)(ht:¬A6W t):A6Y w (put w b i v):=fun c cs' t' ht' hn=>by
 have:c≠b:=by rintro rfl;have h1:N6 w c cs t:=hb;unfold N6 at h1 hn;rw[hn]at h1;cases h1;exact ht ht'
 unfold N6;rw[A7 this];exact hn
theorem J9{w:World}{b i t:Nat}{cs:Array Value}{v:Value}(hb:N6 w b cs t):N6 (put w b i v) b (cs.setIfInBounds i v) t:=by
 unfold N6 at*;rw[C6,hb,M6]
theorem I9.put_node{src:A6}{B r p b i t:Nat}{w:World}{st:RS}{cs:Array Value}{v:Value}(h:I9 src B r p w st)(hn:N6 w b cs t)(ht:A1y t)(hB:B≤b):I9 src B r p (put w b i v) st:=by
 obtain⟨nv,hp,hnv⟩:=h.pg;have hn':w.heap[b]?=some (.cells cs t):=hn;have nr:r≠b:=by rintro rfl;rw[h.rd]at hn';cases hn';exact ht.2.1 rfl
 have np:p≠b:=by rintro rfl;rw[hp]at hn';cases hn';exact ht.2.2 rfl
 refine⟨by rw[A7 nr];exact h.rd,⟨nv,by rw[A7 np];exact hp,hnv.keep fun c cs' hc=>?_⟩,h.rB,h.pB,h.rp,?_,h.gB⟩
 ·have:c≠b:=by rintro rfl;rw[hc]at hn';cases hn';exact ht.1 rfl
  rw[A7 this];exact hc
 ·obtain⟨T,f,hl⟩:=h.rl;have:=h.gB;exact⟨T,f,by rw[A7 om];exact hl⟩
def D5n(w:World)(v:Value)(c:P8):Prop:=∃t1 u1 t2 u2,v= .agg #[.iface t1 u1,.iface t2 u2,vi c.rel]∧M7 w (.iface t1 u1) c.l∧M7 w (.iface t2 u2) c.r
theorem D6S{t:Nat}{cs:Array Value}(h:∀w:World,(B4 t).run pr w= .ok (.value (pt w.heap.size 0)) (w.alloc (.cells cs t))):∀E w K,o pr E w (B4 t) K=K (pt w.heap.size 0) (w.alloc (.cells cs t)):=fun _ w _=>D5 (h w)
def CdJ(src:A6)(B r p b d:Nat)(w0:World)(st:RS)(l:Sum)(t:Nat)(u:Value)(vs:List Value)(w:World):Prop:=
 vs=[]∧∃k,V7 (L5 src st)=some k∧N6 w d #[.iface t u,.nilIface,vi (k:Nat)] U0∧N6 w b #[.nilIface,.nilIface,vi 0] U0∧I9 src B r p w st∧Fr B r p w0 w∧M7 w (.iface t u) l
theorem A9g:¬A6W U0:=by rintro(h|h|h|h)<;>exact absurd h (by decide)
theorem C9L(a b c:Value)(t:Nat)(f:Nat×Nat):I0 (some (.cells #[a,b,c] t f)) 0 3=some (.agg #[a,b,c]):=rfl
theorem C3s{src:A6}{B r p n:Nat}{w:World}{st:RS}{res:P0 P8}(hsm:src.length≤400)(h:I9 src B r p w st)(hw:Wf src st)(hop:st.op≤12)(hres:A2r src n st=some res):
 Calls pr A7Q #[pt r 0] w (Rd src B r p w D5n res):=by
 refine C0C _ _ _ ?_;unfold B8Y;have hB:=h.B_le;unfold A2r at hres;simp only[↓Zz2,RV,↓D6S C9N];generalize hw0:w.alloc (.cells #[.nilIface,.nilIface,vi 0] U0)=w0;generalize hbe:w.heap.size=b at*;have hb0:N6 w0 b #[.nilIface,.nilIface,vi 0] U0:=by rw[←hw0,←hbe];exact A5 _
 have h0:I9 src B r p w0 st:=by rw[←hw0];exact h.alloc _
 have hf0:Fr B r p w w0:=by rw[←hw0];exact(Fr.refl _ _ _ _).alloc om _
 have ntb:A1y U0:=⟨by decide,by decide,by decide⟩;cases hx:ex src n .su st with
 |none=>rw[hx]at hres;cases hres
 |some q=>
 rw[hx]at hres;refine A9 (B8v hsm n w0 st q h0 hw hop hx) ?_;rintro e w1 ⟨hf1,hr1⟩;cases q with
 |err a x=>cases hres;obtain⟨c,rfl,hc⟩:=hr1;exact⟨hf0.trans hf1,c,rfl,hc⟩
 |ok l st1=>
 simp only[P0.bind]at hres;obtain⟨v1,rfl,h1,hv1⟩:=hr1;have hb1:N6 w1 b _ U0:=(hf1.keepN h0) _ _ _ ntb hb0;have hk1:=L6 _ _ _ _ _ hw hx;obtain⟨t1,u1,rfl⟩:=hv1.iface;simp only[C5,↓Zz2,RV,↓A4l (D7y _ _),↓D6S C9N,A5];have hba:N6 (w1.alloc (.cells #[.nilIface,.nilIface,vi 0] U0)) w1.heap.size #[.nilIface,.nilIface,vi 0] U0:=A5 _;have hs1:=hf0.size;have hs2:=hf1.size;have hlt:=B9 hb1;have hB1:B≤w1.heap.size:=om;generalize hd:w1.heap.size=d at*;have hrow:okRow (some (.cells #[.nilIface,.nilIface,vi 0] U0)) 0 3=true:=rfl;have hall:[Value.iface t1 u1,.nilIface,vi 0].all G3=true:=rfl;simp only[hrow,hall,↓Zz2,RV,putL];generalize hw2:put (put (put (w1.alloc (.cells #[.nilIface,.nilIface,vi 0] U0)) d 0 (.iface t1 u1)) d 1 .nilIface) d 2 (vi 0)=w2;have hd2:N6 w2 d #[.iface t1 u1,.nilIface,vi 0] U0:=by rw[←hw2];exact J9 (J9 (J9 hba))
 have hr2:I9 src B r p w2 st1:=by
  rw[←hw2];exact(((h1.alloc _).put_node hba ntb hB1).put_node (J9 hba) ntb hB1).put_node (J9 (J9 hba)) ntb hB1
 have hf2:Fr B r p w w2:=by
  rw[←hw2];exact((((hf0.trans hf1).alloc om _).put hB1 (.inr (.inr om))).put hB1 (.inr (.inr om))).put hB1 (.inr (.inr om))
 have hb2:N6 w2 b #[.nilIface,.nilIface,vi 0] U0:=by
  rw[←hw2];unfold N6;rw[A7 om,A7 om,A7 om,D3 om];exact hb1
 have hv2:M7 w2 (.iface t1 u1) l:=by
  rw[←hw2];exact((hv1.keepS ((M8.refl _).alloc _).keepS).keepS (M0 hba A9g)).keepS (M0 (J9 hba) A9g)|>.keepS (M0 (J9 (J9 hba)) A9g)
 refine⟨CdJ src B r p b d w st1 l t1 u1,?_,?_⟩
 ·rintro _ w3 ⟨_,k,hk,hd3,hb3,hr3,hf3,hv3⟩;rw[hk]at hres;simp only[]at hres;refine A9 (A4m hr3 hk1.wf.el hsm) ?_;rintro _ w4 ⟨rfl,hf4,hr4⟩;simp only[C5];have hd4:N6 w4 d _ U0:=(hf4.keepN hr3) _ _ _ ntb hd3;have hb4:N6 w4 b _ U0:=(hf4.keepN hr3) _ _ _ ntb hb3;have hv4:=hv3.keep (hf4.keepN hr3);cases hx2:ex src n .su (E2 src st1)with
  |none=>rw[hx2]at hres;cases hres
  |some q=>
  rw[hx2]at hres;refine A9 (B8v hsm n w4 _ q hr4 hk1.wf.next (by rw[show(E2 src st1).op=st1.op from rfl,hk1.op];exact hop) hx2) ?_;rintro e w5 ⟨hf5,hr5⟩;cases q with
  |err a x=>cases hres;obtain⟨c,rfl,hc⟩:=hr5;exact⟨(hf3.trans hf4).trans hf5,c,rfl,hc⟩
  |ok rr st2=>
  simp only[P0.bind]at hres;cases hres;obtain⟨v2,rfl,h5,hv5⟩:=hr5;have hd5:N6 w5 d _ U0:=(hf5.keepN hr4) _ _ _ ntb hd4;have hb5:N6 w5 b _ U0:=(hf5.keepN hr4) _ _ _ ntb hb4;have hl5:=hv4.keep (hf5.keepN hr4);obtain⟨t2,u2,rfl⟩:=hv5.iface;have hf35:=(hf3.trans hf4).trans hf5;have hd5':w5.heap[d]?=some (.cells #[.iface t1 u1,.nilIface,vi (k:Nat)] U0):=hd5;have hb6:(put w5 d 1 (.iface t2 u2)).heap[b]?=some (.cells #[.nilIface,.nilIface,vi 0] U0):=by
   rw[A7 om];exact hb5
  have hd6:=J9 (i:=1) (v:=.iface t2 u2) hd5;have h6:=h5.put_node (i:=1) (v:=.iface t2 u2) hd5 ntb hB1;have hf6:=hf35.put (i:=1) (v:=.iface t2 u2) hB1 (.inr (.inr om));have hl6:=hl5.keepS (M0 (i:=1) (v:=.iface t2 u2) hd5 A9g);have hr6:=hv5.keepS (M0 (i:=1) (v:=.iface t2 u2) hd5 A9g);simp only[C5,↓Zz2,RV,hd5',C9L];generalize put w5 d 1 (.iface t2 u2)=w6 at*;have hall2:[Value.iface t1 u1,.iface t2 u2,vi (k:Nat)].all G3=true:=rfl;have hrow2:okRow (some (.cells #[.nilIface,.nilIface,vi 0] U0)) 0 3=true:=rfl;simp only[↓Zz2,RV,hb6,hall2,hrow2,putL];have hb6':N6 w6 b _ U0:=hb6;have hB2:B≤b:=hB;generalize hw7:put (put (put w6 b 0 (.iface t1 u1)) b 1 (.iface t2 u2)) b 2 (vi (k:Nat))=w7;have hb7:N6 w7 b #[.iface t1 u1,.iface t2 u2,vi (k:Nat)] U0:=by rw[←hw7];exact J9 (J9 (J9 hb6'))
  refine C6w (n:=3) (by exact B4v) (by rw[show w7.heap[b]?=_ from hb7];exact C9L _ _ _ _ _) ?_;refine⟨?_,_,rfl,?_,t1,u1,t2,u2,rfl,?_,?_⟩
  ·rw[←hw7];exact((hf6.put hB2 (.inr (.inr om))).put hB2 (.inr (.inr om))).put hB2 (.inr (.inr om))
  ·rw[←hw7];exact((h6.put_node hb6' ntb hB2).put_node (J9 hb6') ntb hB2).put_node (J9 (J9 hb6')) ntb hB2
  ·rw[←hw7];exact((hl6.keepS (M0 hb6' A9g)).keepS (M0 (J9 hb6') A9g)).keepS (M0 (J9 (J9 hb6')) A9g)
  ·rw[←hw7];exact((hr6.keepS (M0 hb6' A9g)).keepS (M0 (J9 hb6') A9g)).keepS (M0 (J9 (J9 hb6')) A9g)
 ·refine A9 (A1J hr2 hk1.wf.ae hk1.wf.el) ?_;rintro _ w3 ⟨rfl,rfl⟩;simp only[C5];refine A9 (D2E hr2.dr.rl) ?_;rintro _ w3 ⟨rfl,rfl⟩;have hd2':w2.heap[d]?=some (.cells #[.iface t1 u1,.nilIface,vi 0] U0):=hd2;simp only[C5,↓Zz2,RV,hd2'];have hd3:=J9 (i:=2) (v:=vi (B6U (L5 src st1))) (w:=dr w2) hd2;have hr3:=hr2.dr.put_node (i:=2) (v:=vi (B6U (L5 src st1))) hd2 ntb hB1;have hf3:=hf2.dr.put (i:=2) (v:=vi (B6U (L5 src st1))) hB1 (.inr (.inr om));refine D2 (fun hb=>?_) (fun hb=>?_)
  ·cases hk:V7 (L5 src st1)with
   |some k=>unfold B6U at hb;rw[hk]at hb;simp at hb;omega
   |none=>
    rw[hk]at hres;cases hres;refine A9 (A6k (α:=P8) hr3 2 D5n) ?_;rintro _ w4 ⟨hfr,c,rfl,hc⟩;exact⟨hf3.trans hfr,c,rfl,hc⟩
  ·cases hk:V7 (L5 src st1)with
   |none=>unfold B6U at hb;rw[hk]at hb;simp at hb
   |some k=>
    have e1:B6U (L5 src st1)=(k:Nat):=by unfold B6U;rw[hk]
    rw[e1]at hd3 hr3 hf3⊢;refine⟨rfl,k,hk,hd3,?_,hr3,hf3,?_⟩
    ·unfold N6;rw[A7 om];exact hb2
    ·exact(hv2.keep (M8.refl w2).dr).keepS (M0 (w:=dr w2) hd2 A9g)
end Go.Inv
namespace Go.Inv
open Go.Sh
def A2t(S:Nat→Prop)(w:World)(v:Value)(xs:List Value):Prop:=w.ownsRow 0 A2D 1 v xs.length xs∧∀g,v.ownBlock=some g→S g
mutual
def A0D(S:Nat→Prop)(w:World)(v:Value):V5→Prop
 | .set p k x=>∃b u,v= .iface A3R (pt b 0)∧S b∧N6 w b #[vi p,vi k,u] A4t∧M7 w u x
 | .get p k=>∃b,v= .iface A4O (pt b 0)∧S b∧N6 w b #[vi p,vi k] B3l
 | .assert p c site=>∃b u1 u2,v= .iface A0c (pt b 0)∧S b∧N6 w b #[vi p,u1,u2,vi c.rel,vi site] X4∧M7 w u1 c.l∧M7 w u2 c.r
 | .ite p c t e he=>∃b u1 u2 tv ev xs ys,v= .iface A7p (pt b 0)∧S b∧N6 w b #[vi p,u1,u2,vi c.rel,tv,ev,.bool he] A7q∧M7 w u1 c.l∧M7 w u2 c.r∧
  A2t S w tv xs∧A2d S w xs t∧A2t S w ev ys∧A2d S w ys e
 | .loop p c bd=>∃b u1 u2 tv xs,v= .iface A1I (pt b 0)∧S b∧N6 w b #[vi p,u1,u2,vi c.rel,tv] R9∧M7 w u1 c.l∧M7 w u2 c.r∧A2t S w tv xs∧A2d S w xs bd
def A2d(S:Nat→Prop)(w:World)(vs:List Value):G0→Prop
 | .nil=>vs=[]
 | .cons s r=>∃v vs',vs=v::vs'∧A0D S w v s∧A2d S w vs' r
end
def C7I(L:Nat)(c:Nat):Prop:=L≤c
abbrev B4y(L:Nat):=A2t (C7I L)
abbrev B5N(L:Nat):=A0D (C7I L)
abbrev E0D(L:Nat):=A2d (C7I L)
def A0K(L:Nat)(w:World)(v:Value)(l:G0):Prop:=∃xs,B4y L w v xs∧E0D L w xs l
def B6F(S:Nat→Prop)(w w':World):Prop:=∀(c:Nat) (cs:Array Value) (t:Nat),S c→A1y t→N6 w c cs t→N6 w' c cs t
abbrev B6G(L:Nat):=B6F (C7I L)
theorem M8.keepP{S:Nat→Prop}{w w':World}(h:M8 w w'):B6F S w w':=fun c cs t _=>h c cs t
theorem M8.keepL{L:Nat}{w w':World}(h:M8 w w'):B6G L w w':=h.keepP
theorem A7U{L b i:Nat}{w:World}{v:Value}(hb:b<L):B6G L w (put w b i v):=fun c cs t hc _ hn=>by
 have hc:L≤c:=hc;unfold N6;rw[A7 om];exact hn
def B6A(S M:Nat→Prop)(w:World):Prop:=∀c,S c→c<w.heap.size→M c
theorem A2t.keep'{S M:Nat→Prop}{w w':World}{v:Value}{xs:List Value}(hM:B6A S M w)(h:B6F S w w')(g:A2t S w v xs):A2t M w' v xs:=by
 obtain⟨g,hS⟩:=g;rcases g.2 with g2|⟨nb,cap,c,rfl,h2,h3,h4⟩
 ·exact⟨⟨g.1,.inl g2⟩,fun k hk=>by rw[g2.1]at hk;cases hk⟩
 ·have hs:=hS nb rfl;exact⟨⟨g.1,.inr ⟨nb,cap,c,rfl,h2,h _ _ _ hs ⟨by decide,by decide,by decide⟩ h3,h4⟩⟩,fun k hk=>by cases hk;exact hM _ hs (B9 h3)⟩
mutual
theorem A0D.keep'{S M:Nat→Prop}{w w':World}(hM:B6A S M w)(h:B6F S w w')(hs:A6Y w w'):∀{s:V5} {v:Value},A0D S w v s→A0D M w' v s
 | .set _ _ _,_,g=>by
   simp only[A0D]at g⊢;obtain⟨b,u,h1,h2,h3,h4⟩:=g;exact⟨b,u,h1,hM _ h2 (B9 h3),h _ _ _ h2 ⟨by decide,by decide,by decide⟩ h3,h4.keepS hs⟩
 | .get _ _,_,g=>by
   simp only[A0D]at g⊢;obtain⟨b,h1,h2,h3⟩:=g;exact⟨b,h1,hM _ h2 (B9 h3),h _ _ _ h2 ⟨by decide,by decide,by decide⟩ h3⟩
 | .assert _ _ _,_,g=>by
   simp only[A0D]at g⊢;obtain⟨b,u1,u2,h1,h2,h3,h4,h5⟩:=g;exact⟨b,u1,u2,h1,hM _ h2 (B9 h3),h _ _ _ h2 ⟨by decide,by decide,by decide⟩ h3,h4.keepS hs,h5.keepS hs⟩
 | .ite _ _ t e _,_,g=>by
   simp only[A0D]at g⊢;obtain⟨b,u1,u2,tv,ev,xs,ys,h1,h2,h3,h4,h5,h6,h7,h8,h9⟩:=g;exact⟨b,u1,u2,tv,ev,xs,ys,h1,hM _ h2 (B9 h3),h _ _ _ h2 ⟨by decide,by decide,by decide⟩ h3,h4.keepS hs,h5.keepS hs,h6.keep' hM h,A2d.keep' hM h hs h7,h8.keep' hM h,A2d.keep' hM h hs h9⟩
 | .loop _ _ bd,_,g=>by
   simp only[A0D]at g⊢;obtain⟨b,u1,u2,tv,xs,h1,h2,h3,h4,h5,h6,h7⟩:=g;exact⟨b,u1,u2,tv,xs,h1,hM _ h2 (B9 h3),h _ _ _ h2 ⟨by decide,by decide,by decide⟩ h3,h4.keepS hs,h5.keepS hs,h6.keep' hM h,A2d.keep' hM h hs h7⟩
theorem A2d.keep'{S M:Nat→Prop}{w w':World}(hM:B6A S M w)(h:B6F S w w')(hs:A6Y w w'):∀{l:G0} {vs:List Value},A2d S w vs l→A2d M w' vs l
 | .nil,_,g=>by simp only[A2d]at g⊢;exact g
 | .cons s r,_,g=>by
   simp only[A2d]at g⊢;obtain⟨v,vs',h1,h2,h3⟩:=g;exact⟨v,vs',h1,A0D.keep' hM h hs h2,A2d.keep' hM h hs h3⟩
end
theorem B8l{L M:Nat}{w:World}(h:M≤L):B6A (C7I L) (C7I M) w:=fun _ hc _=>Nat.le_trans h hc
theorem A2t.keep{L M:Nat}{w w':World}{v:Value}{xs:List Value}(g:B4y L w v xs)(hM:M≤L)(h:B6G L w w'):B4y M w' v xs:=g.keep' (B8l hM) h
theorem A2d.keep{L M:Nat}{w w':World}{l:G0}{vs:List Value}(g:E0D L w vs l)(hM:M≤L)(h:B6G L w w')(hs:A6Y w w'):E0D M w' vs l:=g.keep' (B8l hM) h hs
theorem A0K.keep{L M:Nat}{w w':World}(hM:M≤L)(h:B6G L w w')(hs:A6Y w w'){l:G0}{v:Value}(g:A0K L w v l):A0K M w' v l:=by
 obtain⟨xs,g1,g2⟩:=g;exact⟨xs,g1.keep hM h,g2.keep hM h hs⟩
theorem A0D.iface{S:Nat→Prop}{w:World}{s:V5}{v:Value}(g:A0D S w v s):∃t u,v= .iface t u:=by
 cases s<;>simp only[A0D]at g
 ·obtain⟨b,u,h1,_⟩:=g;exact⟨_,_,h1⟩
 ·obtain⟨b,h1,_⟩:=g;exact⟨_,_,h1⟩
 ·obtain⟨b,u,v,h1,_⟩:=g;exact⟨_,_,h1⟩
 ·obtain⟨b,u,v,_,_,_,_,h1,_⟩:=g;exact⟨_,_,h1⟩
 ·obtain⟨b,u,v,_,_,h1,_⟩:=g;exact⟨_,_,h1⟩
theorem A2t.slice{S:Nat→Prop}{w:World}{v:Value}{xs:List Value}(g:A2t S w v xs):∃a n c,v= .slice a n c:=by
 rcases g.1.2 with⟨rfl,_⟩|⟨nb,cap,c,rfl,_⟩<;>exact⟨_,_,_,rfl⟩
theorem C8f(S:Nat→Prop)(w:World):A2t S w (.slice none 0 0) []:=⟨⟨rfl,.inl ⟨rfl,rfl⟩⟩,fun _ h=>by cases h⟩
end Go.Inv
namespace Go.Inv
open Go.Sh
theorem A7e:A3J pr T8=true:=kr
def C0h(src:A6)(B r p:Nat)(rd:RS→Option (P0 G0)):Prop:=∀w st res,I9 src B r p w st→Wf src st→st.op≤12→rd st=some res→
 Calls pr T8 #[pt r 0] w (Rd src B r p w (A0K w.heap.size) res)
def C0l(src:A6)(rd:RS→Option (P0 G0)):Prop:=∀st st' l,Wf src st→rd st=some (.ok l st')→A2u src st st'
theorem C0c{src:A6}{B r p:Nat}{rd:RS→Option (P0 G0)}(hsm:src.length≤400)(hst:C0h src B r p rd)(hrk:C0l src rd){w:World}{st:RS}{res:P0 G0}
 (h:I9 src B r p w st)(hw:Wf src st)(hop:st.op≤12)(hres:A0z src rd st=some res):
 Calls pr A6h #[pt r 0] w (Rd src B r p w (A0K w.heap.size) res):=by
 refine B9a _ _ _ ?_;unfold B6i;simp only[↓Zz2,RV];unfold A0z at hres;have hval:∀w1 w2 v a,M8 w1 w2→A0K w.heap.size w1 v a→A0K w.heap.size w2 v a:=fun _ _ _ _ hk g=>g.keep (Nat.le_refl _) hk.keepL hk.keepS;by_cases ht:L5 src st=[123]
 ·rw[if_pos (by simpa using ht)]at hres;by_cases ho:st.op=12
  ·rw[if_pos (by simpa using ho)]at hres;cases hres;refine A9 (A8g (val:=A0K w.heap.size) (t:=[123]) (f:=T8) (x:=#[pt r 0]) (y:=#[]) h hw hsm hop A7e hval (inn:=.err 0 0) (fun _ hh=>om) (fun _ _ _ hh=>by cases hh)) ?_;rintro e w2 ⟨hfr,hr2⟩;unfold B1B at hr2;rw[if_pos ht,if_pos ho]at hr2;obtain⟨c,rfl,hc⟩:=hr2;exact⟨hfr,c,rfl,hc⟩
  ·rw[if_neg (by simpa using ho)]at hres;cases hx:rd {E2 src st with op:=st.op+1}with
   |none=>rw[hx]at hres;cases hres
   |some q=>
   rw[hx]at hres;refine A9 (A8g (val:=A0K w.heap.size) (t:=[123]) (f:=T8) (x:=#[pt r 0]) (y:=#[]) h hw hsm hop A7e hval (inn:=q) ?_ ?_) ?_
   ·intro _ ho w1 hfr hrd;refine(hst _ _ _ hrd (hw.next.op _) (by show st.op+1≤12;omega) hx).mono ?_;rintro e w2 ⟨hf2,hr2⟩;refine⟨hf2,?_⟩;cases q with
    |err a x=>exact hr2
    |ok l st'=>
     obtain⟨v,rfl,hrd2,hv⟩:=hr2;exact⟨v,rfl,hrd2,hv.keep hfr.size (M8.refl _).keepL (M8.refl _).keepS⟩
   ·intro a st' _ hi;subst hi;exact(hrk _ _ _ (hw.next.op _) hx).op
   ·rintro e w2 ⟨hfr,hr2⟩;unfold B1B at hr2;rw[if_pos ht,if_neg ho]at hr2;cases q with
    |err a x=>
     cases hres;obtain⟨c,rfl,hc⟩:=hr2;exact⟨hfr,c,rfl,hc⟩
    |ok l st'=>
     obtain⟨v,rfl,hrd,hv⟩:=hr2;have hk5:=hrk _ _ _ (hw.next.op _) hx;simp only[C5];simp only[P0.bind]at hres;cases hts:V8 src [125] {st' with op:=st'.op- 1}with
     |none=>rw[hts]at hres;cases hres
     |some q2=>
     rw[hts]at hres;refine A9 (A1R hrd (hk5.wf.op _) hsm hts) ?_;rintro e w3 ⟨hfr3,hr3⟩;cases q2 with
     |err a x=>cases hres;obtain⟨c,rfl,hc⟩:=hr3;exact⟨hfr.trans hfr3,c,rfl,hc⟩
     |ok u st2=>
      cases hres;obtain⟨_,rfl,hrd3,rfl⟩:=hr3;have hk:=hfr3.keepN hrd;exact⟨hfr.trans hfr3,v,rfl,hrd3,hv.keep (Nat.le_refl _) hk.keepL hk.keepS⟩
 ·rw[if_neg (by simpa using ht)]at hres;cases hres;refine A9 (A8g (val:=A0K w.heap.size) (t:=[123]) (f:=T8) (x:=#[pt r 0]) (y:=#[]) h hw hsm hop A7e hval (inn:=.err 0 0) (fun hh=>absurd hh ht) (fun _ _ hh=>absurd hh ht)) ?_;rintro e w2 ⟨hfr,hr2⟩;unfold B1B at hr2;rw[if_neg ht]at hr2;obtain⟨c,rfl,hc⟩:=hr2;exact⟨hfr,c,rfl,hc⟩
end Go.Inv
namespace Go.Inv
open Go.Sh
theorem B9F:A1y L4:=⟨by decide,by decide,by decide⟩
theorem D9N:A1y B3l:=⟨by decide,by decide,by decide⟩
theorem U9:A1y E6:=⟨by decide,by decide,by decide⟩
theorem B1y(a:Value)(t:Nat)(f:Nat×Nat):I0 (some (.cells #[a] t f)) 0 1=some (.agg #[a]):=rfl
def Zz44:=yA @B1y<|yA @RV<|@A2W
theorem D3H{src:A6}{B r p b:Nat}{w:World}{st:RS}{pn:Nat}{res:P0 V5}(hsm:src.length≤400)(h:I9 src B r p w st)(hw:Wf src st)
 (hb:N6 w b #[pt r 0] E6)(hres:P0.bind (A6b src st) (fun v st2=>P0.bind (V8 src [59] st2) fun _ st3=>some (.ok (.get pn v) st3))=some res):
 Calls pr V4 #[.agg #[vi pn],pt b 0] w (Rd src B r p w (B5N w.heap.size) res):=by
 refine B5f _ _ _ _ ?_;unfold B2f;have hB:=h.B_le;simp only[↓Zz2,Zz21];generalize hw0:w.alloc (.cells #[vi (pn:Nat)] L4)=w0;have hd0:w0.heap[w.heap.size]?=some (.cells #[vi (pn:Nat)] L4):=by rw[←hw0];exact A5 _
 have h0:I9 src B r p w0 st:=by rw[←hw0];exact h.alloc _
 have hf0:Fr B r p w w0:=by rw[←hw0];exact(Fr.refl _ _ _ _).alloc om _
 have hb0:w0.heap[b]?=some (.cells #[pt r 0] E6):=(hf0.keepN h) _ _ _ U9 hb;simp only[hd0,hb0,B1y,↓Zz2,RV];cases hx:A6b src st with
 |none=>rw[hx]at hres;cases hres
 |some q=>
 rw[hx]at hres;refine A9 (D7a h0.dr hw hsm hx) ?_;rintro e w2 ⟨hf2,hr2⟩;cases q with
 |err a x=>cases hres;obtain⟨c,rfl,hc⟩:=hr2;exact⟨hf0.dr.trans hf2,c,rfl,hc⟩
 |ok v st2=>
 obtain⟨_,rfl,h2,rfl⟩:=hr2;have hk2:=B2J hw hx;have hd2:w2.heap[w.heap.size]?=some (.cells #[vi (pn:Nat)] L4):=(hf2.keepN h0.dr) _ _ _ B9F hd0;have hb2:w2.heap[b]?=some (.cells #[pt r 0] E6):=(hf2.keepN h0.dr) _ _ _ U9 hb0;have hlb:=B9 hb2;simp only[C5,hd2,hb2,Zz44,↓Zz2,↓A7I (E0s _ _)];have hf3:Fr B r p w (w2.alloc (.cells #[vi (pn:Nat),vi (v:Nat)] B3l)):=(hf0.dr.trans hf2).alloc om _;have h3:=h2.alloc (.cells #[vi (pn:Nat),vi (v:Nat)] B3l);have hn3:N6 (w2.alloc (.cells #[vi (pn:Nat),vi (v:Nat)] B3l)) w2.heap.size #[vi (pn:Nat),vi (v:Nat)] B3l:=A5 _;have hb3:(w2.alloc (.cells #[vi (pn:Nat),vi (v:Nat)] B3l)).heap[b]?=some (.cells #[pt r 0] E6):=by rw[D3 om];exact hb2
 simp only[hb3,↓Zz2,RV];simp only[P0.bind]at hres;cases hts:V8 src [59] st2 with
 |none=>rw[hts]at hres;cases hres
 |some q2=>
 rw[hts]at hres;refine A9 (A1R h3 hk2.wf hsm hts) ?_;rintro e w4 ⟨hf4,hr4⟩;cases q2 with
 |err a x=>cases hres;obtain⟨c,rfl,hc⟩:=hr4;exact⟨hf3.trans hf4,c,rfl,hc⟩
 |ok u st3=>
 cases hres;obtain⟨_,rfl,h4,rfl⟩:=hr4;simp only[C5,↓Zz2,RV];refine⟨hf3.trans hf4,_,rfl,h4,?_⟩;simp only[A0D];exact⟨w2.heap.size,rfl,(hf0.dr.trans hf2).size,(hf4.keepN h3) _ _ _ D9N hn3⟩
end Go.Inv
namespace Go.Inv
open Go.Sh
theorem C4O:A1y R9:=⟨by decide,by decide,by decide⟩
theorem D3t:¬A6W R9:=by rintro(h|h|h|h)<;>exact absurd h (by decide)
theorem D3E{src:A6}{B r p b n:Nat}{rd:RS→Option (P0 G0)}{w:World}{st:RS}{pn:Nat}{res:P0 V5}(hsm:src.length≤400)(hst:C0h src B r p rd)(hrk:C0l src rd)
 (h:I9 src B r p w st)(hw:Wf src st)(hop:st.op≤12)
 (hb:N6 w b #[pt r 0] E6)(hres:P0.bind (A2r src n st) (fun c st2=>P0.bind (A0z src rd st2) fun bd st3=>some (.ok (.loop pn c bd) st3))=some res):
 Calls pr A1h #[.agg #[vi pn],pt b 0] w (Rd src B r p w (B5N w.heap.size) res):=by
 refine B5c _ _ _ _ ?_;unfold B2c;have hB:=h.B_le;simp only[↓Zz2,Zz21];generalize hw0:w.alloc (.cells #[vi (pn:Nat)] L4)=w0;have hd0:w0.heap[w.heap.size]?=some (.cells #[vi (pn:Nat)] L4):=by rw[←hw0];exact A5 _
 have h0:I9 src B r p w0 st:=by rw[←hw0];exact h.alloc _
 have hf0:Fr B r p w w0:=by rw[←hw0];exact(Fr.refl _ _ _ _).alloc om _
 have hb0:w0.heap[b]?=some (.cells #[pt r 0] E6):=(hf0.keepN h) _ _ _ U9 hb;simp only[hd0,hb0,B1y,↓Zz2,RV];cases hx:A2r src n st with
 |none=>rw[hx]at hres;cases hres
 |some q=>
 rw[hx]at hres;refine A9 (C3s hsm h0.dr hw hop hx) ?_;rintro e w2 ⟨hf2,hr2⟩;cases q with
 |err a x=>cases hres;obtain⟨c,rfl,hc⟩:=hr2;exact⟨hf0.dr.trans hf2,c,rfl,hc⟩
 |ok c st2=>
 obtain⟨_,rfl,h2,t1,u1,t2,u2,rfl,hl2,hrr2⟩:=hr2;have hk2:=V1 hw hx;have hd2:w2.heap[w.heap.size]?=some (.cells #[vi (pn:Nat)] L4):=(hf2.keepN h0.dr) _ _ _ B9F hd0;have hb2:w2.heap[b]?=some (.cells #[pt r 0] E6):=(hf2.keepN h0.dr) _ _ _ U9 hb0;have hlb:=B9 hb2;simp only[C5,hd2,hb2,Zz44,↓Zz2,↓A7I (D4M _ _ _ _ _ _)];have hs2:=(hf0.dr.trans hf2).size;generalize hcs:#[vi (pn:Nat),Value.iface t1 u1,.iface t2 u2,vi (c.rel:Nat),.slice none 0 0]=cs;have hf3:Fr B r p w (w2.alloc (.cells cs R9)):=(hf0.dr.trans hf2).alloc om _;have h3:=h2.alloc (.cells cs R9);have hn3:N6 (w2.alloc (.cells cs R9)) w2.heap.size cs R9:=A5 _;have hb3:(w2.alloc (.cells cs R9)).heap[b]?=some (.cells #[pt r 0] E6):=by rw[D3 om];exact hb2
 have hl3:=hl2.keep ((M8.refl _).alloc (.cells cs R9));have hrr3:=hrr2.keep ((M8.refl _).alloc (.cells cs R9));have hsz3:(w2.alloc (.cells cs R9)).heap.size=w2.heap.size+1:=C1 _;generalize w2.alloc (.cells cs R9)=w3 at*;generalize hd:w2.heap.size=d at*;simp only[hb3,↓Zz2,RV];simp only[P0.bind]at hres;cases hbs:A0z src rd st2 with
 |none=>rw[hbs]at hres;cases hres
 |some q2=>
 rw[hbs]at hres;refine A9 (C0c hsm hst hrk h3 hk2.wf (by rw[hk2.op];exact hop) hbs) ?_;rintro e w4 ⟨hf4,hr4⟩;cases q2 with
 |err a x=>cases hres;obtain⟨c,rfl,hc⟩:=hr4;exact⟨hf3.trans hf4,c,rfl,hc⟩
 |ok bd st3=>
 cases hres;obtain⟨bv,rfl,h4,hbd⟩:=hr4;have hn4:N6 w4 d cs R9:=(hf4.keepN h3) _ _ _ C4O hn3;have hn4':w4.heap[d]?=some (.cells cs R9):=hn4;obtain⟨xs,hrow,hxs⟩:=hbd;have h1v:G3 bv=true:=by obtain⟨_,_,_,rfl⟩:=hrow.slice;rfl
 have hcz:4<cs.size:=by rw[←hcs];simp
 have hdz:decide (4<cs.size)=true:=by simpa using hcz
 simp only[C5,hn4',h1v,hdz,↓Zz2,RV];have hBd:B≤d:=om;have hkL:B6G w3.heap.size w4 (put w4 d 4 bv):=A7U om;have hkS:A6Y w4 (put w4 d 4 bv):=M0 hn4 D3t;have hk34:=hf4.keepN h3;refine⟨(hf3.trans hf4).put hBd (.inr (.inr hs2)),_,rfl,h4.put_node hn4 C4O hBd,?_⟩;simp only[A0D];have hle:w.heap.size≤w3.heap.size:=hf3.size;refine⟨d,_,_,bv,xs,rfl,hs2,?_,(hl3.keep hk34).keepS hkS,(hrr3.keep hk34).keepS hkS,hrow.keep hle hkL,hxs.keep hle hkL hkS⟩;have:=J9 (i:=4) (v:=bv) hn4;rw[←hcs]at this;exact this
end Go.Inv
namespace Go.Inv
open Go.Sh
theorem A7L:A1y X4:=⟨by decide,by decide,by decide⟩
theorem A5w:¬A6W X4:=by rintro(h|h|h|h)<;>exact absurd h (by decide)
theorem D3G{src:A6}{B r p b n:Nat}{w:World}{st:RS}{pn:Nat}{res:P0 V5}(hsm:src.length≤400)
 (h:I9 src B r p w st)(hw:Wf src st)(hw1:Wf src {st with sites:=st.sites+1})(hop:st.op≤12)
 (hb:N6 w b #[pt r 0] E6)(hres:P0.bind (A2r src n {st with sites:=st.sites+1}) (fun c st2=>P0.bind (V8 src [59] st2) fun _ st3=>some (.ok (.assert pn c st.sites) st3))=some res):
 Calls pr Y2 #[.agg #[vi pn],pt b 0] w (Rd src B r p w (B5N w.heap.size) res):=by
 refine B5e _ _ _ _ ?_;unfold B2e;have hB:=h.B_le;simp only[↓Zz2,Zz21];generalize hw0:w.alloc (.cells #[vi (pn:Nat)] L4)=w0;have hd0:w0.heap[w.heap.size]?=some (.cells #[vi (pn:Nat)] L4):=by rw[←hw0];exact A5 _
 have h0:I9 src B r p w0 st:=by rw[←hw0];exact h.alloc _
 have hf0:Fr B r p w w0:=by rw[←hw0];exact(Fr.refl _ _ _ _).alloc om _
 have hb0:w0.heap[b]?=some (.cells #[pt r 0] E6):=(hf0.keepN h) _ _ _ U9 hb;have hr0:=h0.rd;obtain⟨nv,hp0,hnv⟩:=h0.pg;have hs0:w.heap.size<w0.heap.size:=B9 hd0;simp only[hd0,hb0,hr0,hp0,Zz44,↓Zz2,↓A7I (D1A _ _)];generalize hcs:#[vi (pn:Nat),Value.nilIface,.nilIface,vi 0,vi (st.sites:Nat)]=cs;have h1:=h0.dr.alloc (.cells cs X4);have hf1:Fr B r p w ((dr w0).alloc (.cells cs X4)):=hf0.dr.alloc om _;have hn1:N6 ((dr w0).alloc (.cells cs X4)) w0.heap.size cs X4:=A5 _;have hb1:((dr w0).alloc (.cells cs X4)).heap[b]?=some (.cells #[pt r 0] E6):=((M8.refl w0).dr.alloc _) _ _ _ U9 hb0;have hsz1:((dr w0).alloc (.cells cs X4)).heap.size=w0.heap.size+1:=C1 _;generalize(dr w0).alloc (.cells cs X4)=w1 at*;generalize hd:w0.heap.size=d at*;have hr1:=h1.rd;obtain⟨nv1,hp1,hnv1⟩:=h1.pg;have hbp:b≠p:=by rintro rfl;rw[hp1]at hb1;cases hb1
 have hdp:d≠p:=by rintro rfl;unfold N6 at hn1;rw[hp1]at hn1;cases hn1
 have hsi:st.sites≤400:=by have:=hw.sa;have:=hw.ae;have:=hw.el;omega
 have hws:IntKind.i64.wrap ((st.sites:Int)+1)=((st.sites+1:Nat):Int):=by rw[H2 om om];omega
 simp only[hb1,hr1,hp1,hws,↓Zz2,RV];have h2:=h1.put_sites (st.sites+1);have hf2:=hf1.put (i:=2) (v:=vi (st.sites+1:Nat)) h.pB (.inr (.inl rfl));have hb2:(put w1 p 2 (vi (st.sites+1:Nat))).heap[b]?=some (.cells #[pt r 0] E6):=by rw[A7 hbp];exact hb1
 have hn2:N6 (put w1 p 2 (vi (st.sites+1:Nat))) d cs X4:=by unfold N6;rw[A7 hdp];exact hn1
 have hsz2:(put w1 p 2 (vi (st.sites+1:Nat))).heap.size=w1.heap.size:=G2 _ _;generalize put w1 p 2 (vi (st.sites+1:Nat))=w2 at*;simp only[hb2,↓Zz2,RV];cases hx:A2r src n {st with sites:=st.sites+1}with
 |none=>rw[hx]at hres;cases hres
 |some q=>
 rw[hx]at hres;refine A9 (C3s hsm h2 hw1 hop hx) ?_;rintro e w3 ⟨hf3,hr3⟩;cases q with
 |err a x=>cases hres;obtain⟨c,rfl,hc⟩:=hr3;exact⟨hf2.trans hf3,c,rfl,hc⟩
 |ok c st2=>
 obtain⟨_,rfl,h3,t1,u1,t2,u2,rfl,hl3,hrr3⟩:=hr3;have hk2:=V1 hw1 hx;have hb3:w3.heap[b]?=some (.cells #[pt r 0] E6):=(hf3.keepN h2) _ _ _ U9 hb2;have hn3:N6 w3 d cs X4:=(hf3.keepN h2) _ _ _ A7L hn2;have hn3':w3.heap[d]?=some (.cells cs X4):=hn3;have hrow:okRow (some (.cells cs X4)) 1 3=true:=by rw[←hcs];rfl
 have hall:[Value.iface t1 u1,.iface t2 u2,vi (c.rel:Nat)].all G3=true:=rfl;simp only[C5,hn3',hrow,hall,↓Zz2,RV,putL];have hBd:B≤d:=om;have hwd:w.heap.size≤d:=om;have hbd:b≠d:=by rintro rfl;rw[hn3']at hb3;cases hb3
 have n4a:=J9 (i:=1) (v:=.iface t1 u1) hn3;have n4b:=J9 (i:=2) (v:=.iface t2 u2) n4a;have hb4:(put (put (put w3 d 1 (.iface t1 u1)) d 2 (.iface t2 u2)) d 3 (vi (c.rel:Nat))).heap[b]?=some (.cells #[pt r 0] E6):=by
  rw[A7 hbd,A7 hbd,A7 hbd];exact hb3
 have h4:=((h3.put_node (i:=1) (v:=.iface t1 u1) hn3 A7L hBd).put_node (i:=2) (v:=.iface t2 u2) n4a A7L hBd).put_node (i:=3) (v:=vi (c.rel:Nat)) n4b A7L hBd;have hf4:=(((hf2.trans hf3).put (i:=1) (v:=.iface t1 u1) hBd (.inr (.inr hwd))).put (i:=2) (v:=.iface t2 u2) hBd (.inr (.inr hwd))).put (i:=3) (v:=vi (c.rel:Nat)) hBd (.inr (.inr hwd));have n4:=J9 (i:=3) (v:=vi (c.rel:Nat)) n4b;have hl4:=((hl3.keepS (M0 (i:=1) (v:=.iface t1 u1) hn3 A5w)).keepS (M0 (i:=2) (v:=.iface t2 u2) n4a A5w)).keepS (M0 (i:=3) (v:=vi (c.rel:Nat)) n4b A5w);have hr4:=((hrr3.keepS (M0 (i:=1) (v:=.iface t1 u1) hn3 A5w)).keepS (M0 (i:=2) (v:=.iface t2 u2) n4a A5w)).keepS (M0 (i:=3) (v:=vi (c.rel:Nat)) n4b A5w);generalize put (put (put w3 d 1 (.iface t1 u1)) d 2 (.iface t2 u2)) d 3 (vi (c.rel:Nat))=w4 at*;simp only[hb4,↓Zz2,RV];simp only[P0.bind]at hres;cases hts:V8 src [59] st2 with
 |none=>rw[hts]at hres;cases hres
 |some q2=>
 rw[hts]at hres;refine A9 (A1R h4 hk2.wf hsm hts) ?_;rintro e w5 ⟨hf5,hr5⟩;cases q2 with
 |err a x=>cases hres;obtain⟨c,rfl,hc⟩:=hr5;exact⟨hf4.trans hf5,c,rfl,hc⟩
 |ok u st3=>
 cases hres;obtain⟨_,rfl,h5,rfl⟩:=hr5;simp only[C5,↓Zz2,RV];have hk45:=hf5.keepN h4;refine⟨hf4.trans hf5,_,rfl,h5,?_⟩;simp only[A0D];refine⟨d,_,_,rfl,hwd,?_,hl4.keep hk45,hr4.keep hk45⟩;have:=hk45 _ _ _ A7L n4;rw[←hcs]at this;exact this
end Go.Inv
namespace Go.Inv
open Go.Sh
theorem C1T:A1y A7q:=⟨by decide,by decide,by decide⟩
theorem D3u:¬A6W A7q:=by rintro(h|h|h|h)<;>exact absurd h (by decide)
def IfJ(src:A6)(B r p d L:Nat)(w0:World)(res:P0 V5)(vs:List Value)(w:World):Prop:=
 vs=[]∧∃s st,res= .ok s st∧Fr B r p w0 w∧I9 src B r p w st∧B5N L w (.iface A7p (pt d 0)) s
theorem D3F{src:A6}{B r p b n:Nat}{rd:RS→Option (P0 G0)}{w:World}{st:RS}{pn:Nat}{res:P0 V5}(hsm:src.length≤400)(hst:C0h src B r p rd)(hrk:C0l src rd)
 (h:I9 src B r p w st)(hw:Wf src st)(hop:st.op≤12)
 (hb:N6 w b #[pt r 0] E6)(hres:P0.bind (A2r src n st) (fun c st2=>P0.bind (A0z src rd st2) fun t st3=>
  if L5 src st3==A8h then P0.bind (A0z src rd (E2 src st3)) fun e st4=>some (.ok (.ite pn c t e true) st4)
  else some (.ok (.ite pn c t .nil false) st3))=some res):
 Calls pr A0o #[.agg #[vi pn],pt b 0] w (Rd src B r p w (B5N w.heap.size) res):=by
 refine B5d _ _ _ _ ?_;unfold B2d;have hB:=h.B_le;simp only[↓Zz2,Zz21];generalize hw0:w.alloc (.cells #[vi (pn:Nat)] L4)=w0;have hd0:w0.heap[w.heap.size]?=some (.cells #[vi (pn:Nat)] L4):=by rw[←hw0];exact A5 _
 have h0:I9 src B r p w0 st:=by rw[←hw0];exact h.alloc _
 have hf0:Fr B r p w w0:=by rw[←hw0];exact(Fr.refl _ _ _ _).alloc om _
 have hb0:w0.heap[b]?=some (.cells #[pt r 0] E6):=(hf0.keepN h) _ _ _ U9 hb;simp only[hd0,hb0,B1y,↓Zz2,RV];cases hx:A2r src n st with
 |none=>rw[hx]at hres;cases hres
 |some q=>
 rw[hx]at hres;refine A9 (C3s hsm h0.dr hw hop hx) ?_;rintro e w2 ⟨hf2,hr2⟩;cases q with
 |err a x=>cases hres;obtain⟨c,rfl,hc⟩:=hr2;exact⟨hf0.dr.trans hf2,c,rfl,hc⟩
 |ok c st2=>
 obtain⟨_,rfl,h2,t1,u1,t2,u2,rfl,hl2,hrr2⟩:=hr2;have hk2:=V1 hw hx;have hd2:w2.heap[w.heap.size]?=some (.cells #[vi (pn:Nat)] L4):=(hf2.keepN h0.dr) _ _ _ B9F hd0;have hb2:w2.heap[b]?=some (.cells #[pt r 0] E6):=(hf2.keepN h0.dr) _ _ _ U9 hb0;have hlb:=B9 hb2;simp only[C5,hd2,hb2,Zz44,↓Zz2,↓A7I (E3g _ _ _ _ _ _)];have hs2:=(hf0.dr.trans hf2).size;generalize hcs:#[vi (pn:Nat),Value.iface t1 u1,.iface t2 u2,vi (c.rel:Nat),.slice none 0 0,.slice none 0 0,.bool false]=cs;have hf3:Fr B r p w (w2.alloc (.cells cs A7q)):=(hf0.dr.trans hf2).alloc om _;have h3:=h2.alloc (.cells cs A7q);have hn3:N6 (w2.alloc (.cells cs A7q)) w2.heap.size cs A7q:=A5 _;have hb3:(w2.alloc (.cells cs A7q)).heap[b]?=some (.cells #[pt r 0] E6):=by rw[D3 om];exact hb2
 have hl3:=hl2.keep ((M8.refl _).alloc (.cells cs A7q));have hrr3:=hrr2.keep ((M8.refl _).alloc (.cells cs A7q));have hsz3:(w2.alloc (.cells cs A7q)).heap.size=w2.heap.size+1:=C1 _;generalize w2.alloc (.cells cs A7q)=w3 at*;generalize hd:w2.heap.size=d at*;have hBd:B≤d:=om;have hbd:b≠d:=om;refine⟨IfJ src B r p d w.heap.size w res,?_,?_⟩
 ·rintro _ w' ⟨_,s,st',rfl,hf,hr,hs⟩;exact⟨hf,_,rfl,hr,hs⟩
 simp only[hb3,↓Zz2,RV];simp only[P0.bind]at hres;cases hbs:A0z src rd st2 with
 |none=>rw[hbs]at hres;cases hres
 |some q2=>
 rw[hbs]at hres;refine A9 (C0c hsm hst hrk h3 hk2.wf (by rw[hk2.op];exact hop) hbs) ?_;rintro e w4 ⟨hf4,hr4⟩;cases q2 with
 |err a x=>cases hres;obtain⟨c,rfl,hc⟩:=hr4;exact⟨hf3.trans hf4,c,rfl,hc⟩
 |ok bd st3=>
 simp only[]at hres;obtain⟨bv,rfl,h4,hbd⟩:=hr4;have hk3:=A1P hrk hk2.wf hbs;have hn4:N6 w4 d cs A7q:=(hf4.keepN h3) _ _ _ C1T hn3;have hn4':w4.heap[d]?=some (.cells cs A7q):=hn4;have hb4:w4.heap[b]?=some (.cells #[pt r 0] E6):=(hf4.keepN h3) _ _ _ U9 hb3;obtain⟨xs,hrow,hxs⟩:=hbd;have h1v:G3 bv=true:=by obtain⟨_,_,_,rfl⟩:=hrow.slice;rfl
 have hdz:decide (4<cs.size)=true:=by rw[←hcs];rfl
 have hkL:B6G w3.heap.size w4 (put w4 d 4 bv):=A7U om;have hkS:A6Y w4 (put w4 d 4 bv):=M0 hn4 D3u;have hk34:=hf4.keepN h3;have hle:w.heap.size≤w3.heap.size:=hf3.size;have hb5:(put w4 d 4 bv).heap[b]?=some (.cells #[pt r 0] E6):=by rw[A7 hbd];exact hb4
 have hn5:=J9 (i:=4) (v:=bv) hn4;have h5:=h4.put_node (i:=4) (v:=bv) hn4 C1T hBd;have hf5:=(hf3.trans hf4).put (i:=4) (v:=bv) hBd (.inr (.inr hs2));have hl5:=(hl3.keep hk34).keepS hkS;have hrr5:=(hrr3.keep hk34).keepS hkS;have hrow5:=hrow.keep (Nat.le_refl _) hkL;have hxs5:=hxs.keep (Nat.le_refl _) hkL hkS;have hsz5:(put w4 d 4 bv).heap.size=w4.heap.size:=G2 _ _;have hs34:=hf4.size;simp only[C5,hn4',h1v,hdz,↓Zz2,RV,hb5];generalize put w4 d 4 bv=w5 at*;refine A9 (A1J h5 hk3.wf.ae hk3.wf.el) ?_;rintro _ w6 ⟨rfl,rfl⟩;simp only[C5,↓Zz2,RV,hb5];refine D2 (fun hm=>?_) (fun hm=>?_)
 ·rw[if_pos (by rw[show(L5 src st3==A8h)=true from hm])]at hres;refine A9 (A4m h5.dr hk3.wf.el hsm) ?_;rintro _ w7 ⟨rfl,hf7,h7⟩;have hk7:=hf7.keepN h5.dr;have hb7:w7.heap[b]?=some (.cells #[pt r 0] E6):=hk7 _ _ _ U9 hb5;simp only[C5,↓Zz2,RV,hb7];cases hbs2:A0z src rd (E2 src st3)with
  |none=>rw[hbs2]at hres;cases hres
  |some q3=>
  rw[hbs2]at hres;refine A9 (C0c hsm hst hrk h7 hk3.wf.next (by rw[show(E2 src st3).op=st3.op from rfl,hk3.op,hk2.op];exact hop) hbs2) ?_;rintro e w8 ⟨hf8,hr8⟩;have hf58:=(hf5.dr.trans hf7).trans hf8;cases q3 with
  |err a x=>cases hres;obtain⟨c,rfl,hc⟩:=hr8;exact⟨hf58,c,rfl,hc⟩
  |ok bd2 st4=>
  simp only[P0.bind]at hres;cases hres;obtain⟨ev,rfl,h8,ys,hrowe,hys⟩:=hr8;have hk8:=hf8.keepN h7;have hn5':N6 (dr w5) d _ A7q:=hn5;have hn8:N6 w8 d _ A7q:=hk8 _ _ _ C1T (hk7 _ _ _ C1T hn5');rw[←hcs]at hn8;have hn8':w8.heap[d]?=some (.cells #[vi (pn:Nat),Value.iface t1 u1,.iface t2 u2,vi (c.rel:Nat),bv,.slice none 0 0,.bool false] A7q):=hn8;have h1e:G3 ev=true:=by obtain⟨_,_,_,rfl⟩:=hrowe.slice;rfl
  have hz1:decide (5<#[vi (pn:Nat),Value.iface t1 u1,.iface t2 u2,vi (c.rel:Nat),bv,.slice none 0 0,.bool false].size)=true:=rfl;have hn9:=J9 (i:=5) (v:=ev) hn8;have hn9':(put w8 d 5 ev).heap[d]?=some (.cells #[vi (pn:Nat),Value.iface t1 u1,.iface t2 u2,vi (c.rel:Nat),bv,ev,.bool false] A7q):=hn9;have hz2:decide (6<#[vi (pn:Nat),Value.iface t1 u1,.iface t2 u2,vi (c.rel:Nat),bv,ev,.bool false].size)=true:=rfl;have kL:∀L,d<L→B6G L w8 (put (put w8 d 5 ev) d 6 (.bool true)):=fun L hL c cs t hc ht hn=>A7U (i:=6) (v:=.bool true) hL _ _ _ hc ht (A7U (i:=5) (v:=ev) hL _ _ _ hc ht hn);have kS:A6Y w8 (put (put w8 d 5 ev) d 6 (.bool true)):=fun c cs t ht hn=>M0 (i:=6) (v:=.bool true) hn9 D3u _ _ _ ht (M0 (i:=5) (v:=ev) hn8 D3u _ _ _ ht hn);have h9:=(h8.put_node (i:=5) (v:=ev) hn8 C1T hBd).put_node (i:=6) (v:=.bool true) hn9 C1T hBd;have hf9:=(hf58.put (i:=5) (v:=ev) hBd (.inr (.inr hs2))).put (i:=6) (v:=.bool true) hBd (.inr (.inr hs2));have hn10:=J9 (i:=6) (v:=.bool true) hn9;simp only[C5,hn8',h1e,hz1,hn9',hz2,↓Zz2,RV];have k57:M8 w5 w7:=hk7;have hs7:=hf7.size;have hsd:(dr w5).heap.size=w5.heap.size:=rfl;refine⟨rfl,_,_,rfl,hf9,h9,?_⟩;simp only[A0D];refine⟨d,_,_,bv,ev,xs,ys,rfl,hs2,hn10,((hl5.keep k57).keep hk8).keepS kS,((hrr5.keep k57).keep hk8).keepS kS,?_,?_,?_,?_⟩
  ·exact((hrow5.keep (Nat.le_refl _) k57.keepL).keep (Nat.le_refl _) hk8.keepL).keep hle (kL _ om)
  ·exact((hxs5.keep (Nat.le_refl _) k57.keepL k57.keepS).keep (Nat.le_refl _) hk8.keepL hk8.keepS).keep hle (kL _ om) kS
  ·exact hrowe.keep om (kL _ om)
  ·exact hys.keep om (kL _ om) kS
 ·rw[if_neg (by rw[show(L5 src st3==A8h)=false from hm];simp)]at hres;cases hres;refine⟨rfl,_,_,rfl,hf5.dr,h5.dr,?_⟩;simp only[A0D];refine⟨d,_,_,bv,.slice none 0 0,xs,[],rfl,hs2,?_,hl5.keep (M8.refl w5).dr,hrr5.keep (M8.refl w5).dr,hrow5.keep hle (M8.refl w5).dr.keepL,hxs5.keep hle (M8.refl w5).dr.keepL (M8.refl w5).dr.keepS,C8f _ _,?_⟩
  ·rw[←hcs]at hn5;exact hn5
  ·simp only[A2d]
end Go.Inv
namespace Go.Inv
open Go.Sh
theorem D7Y:B8x pr 188=true:=kr
theorem D9U(w:World):(B9m 188).run pr w= .ok (.value (.map (some w.heap.size))) (w.alloc (.map #[] 0)):=kr
theorem E4G:∀E w K,o pr E w (B9m 188) K=K (.map (some w.heap.size)) (w.alloc (.map #[] 0)):=fun _ w _=>D5 (D9U w)
theorem C8z{E:B7}{w:World}{K:Yv}{m c:Nat}{k:A6}{v:Value}{l:List Ent}(hm:w.heap[m]?=some (.map (A0J l) c))(hn:B2n k l 0=none)
 (hK:K undef (setO w m (.map (A0J (l++[(k,v,c)])) (c+1)))):o pr E w (A8v 188 (.map (some m)) (.string (S k)) v) K:=by
 rw[C6L (C6t D7Y hm hn)];exact hK
def kv(f b:Nat):Value:=.func (.func f) #[] #[pt b 0]
def C3e(b:Nat):List Ent:=[(A1a,kv V4 b,0),(U4,kv Y2 b,1),(A9K,kv A0o b,2),(A0Z,kv A1h b,3)]
theorem Fr.setO{B r p m:Nat}{x:Obj}{w1 w2:World}(h:Fr B r p w1 w2)(hB:B≤w1.heap.size)(hm:w1.heap.size≤m):Fr B r p w1 (setO w2 m x):=by
 refine⟨by rw[D0n];exact h.size,fun c hc=>?_,fun c cs t f h1 h2 h3 h4=>?_,fun c y h1 h2=>?_,⟨h.out.os,h.out.output⟩⟩
 ·rw[T3 om];exact h.old c hc
 ·have:=B9 h1;rw[T3 om];exact h.keep c cs t f h1 h2 h3 h4
 ·have:=B9 h1;rw[T3 om];exact h.other c y h1 h2
theorem I9.setO{src:A6}{B r p m:Nat}{w:World}{st:RS}{x:Obj}{es:Array MapEntry}{c:Nat}(h:I9 src B r p w st)(hm:w.heap[m]?=some (.map es c)):I9 src B r p (setO w m x) st:=by
 obtain⟨nv,hp,hnv⟩:=h.pg;have ne:∀{k:Nat} {cs:Array Value} {t:Nat} {f:Nat×Nat},w.heap[k]?=some (.cells cs t f)→k≠m:=by
  rintro k cs t f hk rfl;rw[hk]at hm;cases hm
 refine⟨by rw[T3 (ne h.rd)];exact h.rd,⟨nv,by rw[T3 (ne hp)];exact hp,hnv.keep fun c cs' hc=>by rw[T3 (ne hc)];exact hc⟩,h.rB,h.pB,h.rp,?_,h.gB⟩;obtain⟨T,f,hl⟩:=h.rl;exact⟨T,f,by rw[T3 (ne hl)];exact hl⟩
def A4p(r:Nat)(w:World)(v:Value):Prop:=∃m b,v= .map (some m)∧w.heap[m]?=some (.map (A0J (C3e b)) 4)∧N6 w b #[pt r 0] E6
def KdP(src:A6)(B r p:Nat)(w:World)(st:RS):Ye:=fun e w'=>∃v,e= .returned v∧Fr B r p w w'∧I9 src B r p w' st∧A4p r w' v
theorem D3D{src:A6}{B r p:Nat}{w:World}{st:RS}(h:I9 src B r p w st):Calls pr B2M #[pt r 0] w (KdP src B r p w st):=by
 refine B8X _ _ _ ?_;unfold B6g;have hB:=h.B_le;simp only[↓RT,↓RG,RV,B0M,↓E4G];have h1:=(h.alloc (.cells #[pt r 0] E6)).alloc (.map #[] 0);have hf1:=(((Fr.refl B r p w).alloc hB (.cells #[pt r 0] E6))).alloc hB (.map #[] 0);have hn1:N6 ((w.alloc (.cells #[pt r 0] E6)).alloc (.map #[] 0)) w.heap.size #[pt r 0] E6:=by
  unfold N6;rw[D3 (by rw[C1];omega)];exact A5 _
 have hm1:((w.alloc (.cells #[pt r 0] E6)).alloc (.map #[] 0)).heap[(w.alloc (.cells #[pt r 0] E6)).heap.size]?=some (.map (A0J []) 0):=A5 _;have hmz:w.heap.size<(w.alloc (.cells #[pt r 0] E6)).heap.size:=by rw[C1];omega
 generalize(w.alloc (.cells #[pt r 0] E6)).alloc (.map #[] 0)=w1 at*;generalize(w.alloc (.cells #[pt r 0] E6)).heap.size=m at*;generalize hb:w.heap.size=b at*;have hbm:b≠m:=om;have hwm:w.heap.size≤m:=om;have hB':B≤w.heap.size:=om;refine C8z hm1 rfl ?_;have hm2:=A3B (x:=.map (A0J ([]++[(A1a,kv V4 b,0)])) (0+1)) hm1;refine C8z hm2 (by rfl) ?_;have hm3:=A3B (x:=.map (A0J ([]++[(A1a,kv V4 b,0)]++[(U4,kv Y2 b,0+1)])) (0+1+1)) hm2;refine C8z hm3 (by rfl) ?_;have hm4:=A3B (x:=.map (A0J ([]++[(A1a,kv V4 b,0)]++[(U4,kv Y2 b,0+1)]++[(A9K,kv A0o b,0+1+1)])) (0+1+1+1)) hm3;refine C8z hm4 (by rfl) ?_;have hm5:=A3B (x:=.map (A0J ([]++[(A1a,kv V4 b,0)]++[(U4,kv Y2 b,0+1)]++[(A9K,kv A0o b,0+1+1)]++[(A0Z,kv A1h b,0+1+1+1)])) (0+1+1+1+1)) hm4;refine⟨_,rfl,(((hf1.setO hB' hwm).setO hB' hwm).setO hB' hwm).setO hB' hwm,(((h1.setO hm1).setO hm2).setO hm3).setO hm4,m,b,rfl,hm5,?_⟩;unfold N6;rw[T3 hbm,T3 hbm,T3 hbm,T3 hbm];exact hn1
end Go.Inv
namespace Go.Inv
open Go.Sh
def C2Q(P:Program)(t:TypeId):Option Value:=match P.underlying t with
 |some (.map _ e)=>match P.info? e with
  |some i=>i.zero
  |none=>none
 |_=>none
theorem C2P{P:Program}{t:TypeId}{z:Value}{w:World}(h:C2Q P t=some z):∀kt e,P.underlying t=some (.map kt e)→(zeroValue e).run P w= .ok z w:=by
 intro kt e hu;unfold C2Q at h;rw[hu]at h;simp only at h;split at h
 ·rename_i i hi;simp[zeroValue,typeInfo,hi,h]
 ·cases h
theorem E2h:∃z,C2Q pr 188=some z:=Option.isSome_iff_exists.1 kr
theorem A4p.keep{src:A6}{B r p:Nat}{w w':World}{st:RS}{v:Value}(h:Fr B r p w w')(hr:I9 src B r p w st)(g:A4p r w v):A4p r w' v:=by
 obtain⟨m,b,h1,h2,h3⟩:=g;exact⟨m,b,h1,h.other _ _ h2 (fun _ _ _ e=>by cases e),(h.keepN hr) _ _ _ U9 h3⟩
def A9h(t:A6):Option Nat:=if t==A1a then some V4 else if t==U4 then some Y2 else if t==A9K then some A0o else if t==A0Z then some A1h else none
theorem C5x(t:A6)(b:Nat):(B2n t (C3e b) 0).map (·.2)=(A9h t).map (kv · b):=by
 unfold C3e A9h;simp only[B2n]
 repeat' split
 all_goals simp_all
theorem D9D{E:B7}{w:World}{K:Yv}{v:Value}{r:Nat}{t:A6}(g:A4p r w v)
 (hs:∀f b,A9h t=some f→N6 w b #[pt r 0] E6→K (.tuple #[kv f b,.bool true]) w)(hn:∀z,A9h t=none→K (.tuple #[z,.bool false]) w):o pr E w (C8b 188 v (.string (S t)) true) K:=by
 obtain⟨m,b,rfl,h2,h3⟩:=g;obtain⟨z,hz⟩:=E2h;rw[D5 (C6s (k:=t) D7Y h2 (C2P hz))];have hk:=C5x t b;cases hf:B2n t (C3e b) 0 with
 |none=>
  rw[hf]at hk;exact hn z (by cases hh:A9h t with|none=>rfl|some f=>rw[hh]at hk;cases hk)
 |some q=>
  obtain⟨i,u⟩:=q;rw[hf]at hk;cases hh:A9h t with
  |none=>rw[hh]at hk;cases hk
  |some f=>
   rw[hh]at hk;simp only[Option.map_some,Option.some.injEq]at hk;subst hk;exact hs f b hh h3
end Go.Inv
namespace Go.Inv
open Go.Sh
theorem E1Z:A3J pr V4=true:=kr
theorem E1Y:A3J pr Y2=true:=kr
theorem E1X:A3J pr A0o=true:=kr
theorem E1W:A3J pr A1h=true:=kr
theorem C8H{src:A6}{B r p f b n:Nat}{rd:RS→Option (P0 G0)}{w:World}{st:RS}{res:P0 V5}(hsm:src.length≤400)(hst:C0h src B r p rd)(hrk:C0l src rd)
 (hkf:A9h (L5 src st)=some f)(hw:Wf src st)(hop:st.op≤12)(hres:A0T src n rd st=some (some res))
 (h:I9 src B r p w (E2 src {st with points:=st.points+1}))(hb:N6 w b #[pt r 0] E6):
 A3J pr f=true∧Calls pr f #[.agg #[vi st.points],pt b 0] w (Rd src B r p w (B5N w.heap.size) res):=by
 unfold A0T at hres;simp only at hres;unfold A9h at hkf;have wf1:L5 src st≠[]→∀d,d≤1→Wf src {E2 src {st with points:=st.points+1}with sites:=st.sites+d}:=fun ht d hd=>(Z1 hw ht d hd).wf;split at hkf
 ·rename_i hb1;cases hkf;have ht:=Z4 hb1 (by decide);rw[if_pos hb1]at hres;exact⟨E1Z,D3H hsm h (wf1 ht 0 om) hb (Option.some.inj hres)⟩
 ·rename_i hb1;rw[if_neg hb1]at hres;split at hkf
  ·rename_i hb2;cases hkf;have ht:=Z4 hb2 (by decide);rw[if_pos hb2]at hres;exact⟨E1Y,D3G hsm h (wf1 ht 0 om) (wf1 ht 1 om) hop hb (Option.some.inj hres)⟩
  ·rename_i hb2;rw[if_neg hb2]at hres;split at hkf
   ·rename_i hb3;cases hkf;have ht:=Z4 hb3 (by decide);rw[if_pos hb3]at hres;exact⟨E1X,D3F hsm hst hrk h (wf1 ht 0 om) hop hb (Option.some.inj hres)⟩
   ·rename_i hb3;rw[if_neg hb3]at hres;split at hkf
    ·rename_i hb4;cases hkf;have ht:=Z4 hb4 (by decide);rw[if_pos hb4]at hres;exact⟨E1W,D3E hsm hst hrk h (wf1 ht 0 om) hop hb (Option.some.inj hres)⟩
    ·cases hkf
end Go.Inv
namespace Go.Inv
open Go.Sh
def C5R:List V5→G0→G0
 |[],l=>l
 |s::r,l=>.cons s (C5R r l)
def C4D(done:List V5):P0 G0→P0 G0
 | .ok l st=>.ok (C5R done l) st
 | .err a e=>.err a e
def A5i(S:Nat→Prop)(w:World):List Value→List V5→Prop
 |[],[]=>True
 |v::vs,s::r=>A0D S w v s∧A5i S w vs r
 |_,_=>False
theorem A5i.keep{S M:Nat→Prop}{w w':World}(hM:B6A S M w)(h:B6F S w w')(hs:A6Y w w'):∀{vs:List Value} {l:List V5},A5i S w vs l→A5i M w' vs l
 |[],[],g=>g
 |_::_,_::_,g=>⟨g.1.keep' hM h hs,A5i.keep hM h hs g.2⟩
 |[],_::_,g=>g.elim
 |_::_,[],g=>g.elim
theorem A5i.snoc{S:Nat→Prop}{w:World}{v:Value}{s:V5}(hv:A0D S w v s):∀{vs:List Value} {l:List V5},A5i S w vs l→A5i S w (vs++[v]) (l++[s])
 |[],[],_=>⟨hv,trivial⟩
 |_::_,_::_,g=>⟨g.1,A5i.snoc hv g.2⟩
 |[],_::_,g=>g.elim
 |_::_,[],g=>g.elim
theorem A5i.all{S:Nat→Prop}{w:World}:∀{vs:List Value} {l:List V5},A5i S w vs l→A2d S w vs (C5R l .nil)
 |[],[],_=>by simp only[C5R,A2d]
 |v::vs,s::r,g=>by simp only[C5R,A2d];exact⟨v,vs,rfl,g.1,A5i.all g.2⟩
 |[],_::_,g=>g.elim
 |_::_,[],g=>g.elim
theorem C2f(s:V5)(l:G0):∀done:List V5,C5R (done++[s]) l=C5R done (.cons s l)
 |[]=>rfl
 |x::r=>by simp only[List.cons_append,C5R,C2f s l r]
def Off(L:Nat)(v:Value)(c:Nat):Prop:=L≤c∧v.ownBlock≠some c
def StI(src:A6)(B r p:Nat)(w0:World)(n:Nat)(kd:Value)(res:P0 G0)(vs:List Value)(w:World):Prop:=
 ∃(m:Nat) (done:List V5) (xs:List Value) (st:RS) (v:Value) (res1:P0 G0),vs=[v]∧m≤n∧A0Q src m st=some res1∧res=C4D done res1∧Fr B r p w0 w∧I9 src B r p w st∧Wf src st∧st.op≤12∧
  A4p r w kd∧xs.length≤st.at_∧B4y w0.heap.size w v xs∧A5i (Off w0.heap.size v) w xs done
end Go.Inv
namespace Go.Inv
open Go.Sh
theorem A2t.owns{L:Nat}{w:World}{v:Value}{xs:List Value}(g:B4y L w v xs):w.ownsRow L A2D 1 v xs.length xs:=by
 obtain⟨g,hS⟩:=g;refine⟨g.1,?_⟩;rcases g.2 with g2|⟨nb,cap,c,rfl,h2,h3⟩
 ·exact .inl g2
 ·exact .inr ⟨nb,cap,c,rfl,hS nb rfl,h3⟩
theorem A2t.of_owns{L n:Nat}{w:World}{v:Value}{xs:List Value}(g:w.ownsRow L A2D 1 v n xs)(hn:n=xs.length):B4y L w v xs:=by
 subst hn;refine⟨⟨g.1,?_⟩,fun k hk=>?_⟩
 ·rcases g.2 with g2|⟨nb,cap,c,h1,h2,h3⟩
  ·exact .inl g2
  ·exact .inr ⟨nb,cap,c,h1,Nat.zero_le _,h3⟩
 ·rcases g.2 with g2|⟨nb,cap,c,rfl,h2,h3⟩
  ·rw[g2.1]at hk;cases hk
  ·cases hk;exact h2
theorem A2t.blk{S:Nat→Prop}{w:World}{v:Value}{xs:List Value}(g:A2t S w v xs){k:Nat}(hk:v.ownBlock=some k):S k∧∃cs f,w.heap[k]?=some (.cells cs A2D f):=by
 refine⟨g.2 k hk,?_⟩;rcases g.1.2 with⟨rfl,_⟩|⟨nb,cap,c,rfl,h2,h3,_⟩
 ·cases hk
 ·cases hk;exact⟨_,_,h3⟩
theorem A2U{S:Nat→Prop}{w w':World}{v:Value}{xs:List Value}(g:A2t S w v xs)(hg:w.grownBy w' v.ownBlock){i:Nat}{x:Obj}(hi:w.heap[i]?=some x)(hx:∀cs f,x≠ .cells cs A2D f):w'.heap[i]?=some x:=by
 rw[hg.block i (B9 hi) (fun e=>by
  obtain⟨_,cs',f',h6⟩:=g.blk e.symm;rw[hi]at h6;cases h6;exact hx _ _ rfl)]
 exact hi
theorem Fr.grownS{B r p:Nat}{w1 w2 w3:World}{v:Value}{xs:List Value}(h:Fr B r p w1 w2)(g:B4y w1.heap.size w2 v xs)(hg:w2.grownBy w3 v.ownBlock)(hB:B≤w1.heap.size):Fr B r p w1 w3:=by
 have hs:=h.size;have ne:∀c,c<w1.heap.size→some c≠v.ownBlock:=fun c hc e=>by have:w1.heap.size≤c:=(g.blk e.symm).1;omega
 refine⟨Nat.le_trans h.size hg.size,fun c hc=>?_,fun c cs t f h1 h2 h3 h4=>?_,fun c y h1 h2=>?_,h.out.grown hg⟩
 ·rw[hg.block c om (ne c om)];exact h.old c hc
 ·have h5:=h.keep c cs t f h1 h2 h3 h4;rw[hg.block c (B9 h5) (ne c (B9 h1))];exact h5
 ·have h5:=h.other c y h1 h2;rw[hg.block c (B9 h5) (ne c (B9 h1))];exact h5
theorem I9.grownS{src:A6}{B r p:Nat}{S:Nat→Prop}{w w':World}{st:RS}{v:Value}{xs:List Value}(h:I9 src B r p w st)(g:A2t S w v xs)(hS:∀c,S c→B≤c)(hg:w.grownBy w' v.ownBlock):I9 src B r p w' st:=by
 obtain⟨nv,hp,hnv⟩:=h.pg;refine⟨A2U g hg h.rd (fun _ _ e=>by cases e),⟨nv,A2U g hg hp (fun _ _ e=>by cases e),hnv.keep fun c cs hc=>A2U g hg hc (fun _ _ e=>by cases e)⟩,h.rB,h.pB,h.rp,?_,h.gB⟩;obtain⟨t,f,hl⟩:=h.rl;refine⟨t,f,?_⟩;rw[hg.block _ (B9 hl) (fun e=>by have:=hS _ (g.blk e.symm).1;have:=h.gB;omega)];exact hl
theorem push{B r p:Nat}{src:A6}{w0 w:World}{st:RS}{v kd:Value}{t:Nat}{u:Value}{xs:List Value}{done:List V5}{s:V5}{K:Yv}{E:B7}
 (hf:Fr B r p w0 w)(h:I9 src B r p w st)(hkd:A4p r w kd)(hrow:B4y w0.heap.size w v xs)(hdone:A5i (Off w0.heap.size v) w xs done)(hB:B≤w0.heap.size)(hn:xs.length≤1000000)
 (hs:A0D (Off w0.heap.size v) w (.iface t u) s)
 (hK:∀v' w',Fr B r p w0 w'→I9 src B r p w' st→A4p r w' kd→B4y w0.heap.size w' v' (xs++[.iface t u])→A5i (Off w0.heap.size v') w' (xs++[.iface t u]) (done++[s])→K v' w'):
 o pr E w (F2 119 1 [(0,.iface t u)]) fun t78 w=>o pr E w (sB .append [119,119] 119 [v,t78]) fun t79 w=>K t79 w:=by
 rw[D5 (D7t t u w)];have hf1:=hf.alloc hB (.cells #[.iface t u] A2D);have h1:=h.alloc (.cells #[.iface t u] A2D);have hka:M8 w (w.alloc (.cells #[.iface t u] A2D)):=(M8.refl _).alloc _;have hrow1:=hrow.keep (Nat.le_refl _) hka.keepL;have hkd1:A4p r (w.alloc (.cells #[.iface t u] A2D)) kd:=hkd.keep ((Fr.refl B r p w).alloc h.B_le _) h;have hwd:B6A (Off w0.heap.size v) (Off w0.heap.size v) w:=fun _ hc _=>hc;have hd1:=hdone.keep hwd hka.keepP hka.keepS;have hs1:=hs.keep' hwd hka.keepP hka.keepS;have hb1:(w.alloc (.cells #[.iface t u] A2D)).heap[w.heap.size]?=some (.cells #[.iface t u] A2D):=A5 _;have hsz:=hf1.size;generalize w.alloc (.cells #[.iface t u] A2D)=w1 at*;refine C1R E1r hrow1.owns hb1 rfl om hsz ?_;intro v' w' hown hg hwhere;have hkp:B6F (Off w0.heap.size v) w1 w':=fun c cs t' hc _ hn'=>by
  unfold N6;rw[hg.block c (B9 hn') (fun e=>hc.2 e.symm)];exact hn'
 have hks:A6Y w1 w':=fun c cs t' ht' hn'=>A2U hrow1 hg hn' (fun _ _ e=>by cases e;rcases ht' with h|h|h|h<;>exact absurd h (by decide));have hwider:B6A (Off w0.heap.size v) (Off w0.heap.size v') w1:=fun c hc hlt=>⟨hc.1,fun e=>by
  rcases hwhere with h'|h'
  ·rw[h']at e;exact hc.2 e
  ·have:=h' c e;omega⟩
 refine hK v' w' (hf1.grownS hrow1 hg hB) (h1.grownS hrow1 (fun c hc=>Nat.le_trans hB hc) hg) ?_ (A2t.of_owns hown (by simp)) ((hd1.keep hwider hkp hks).snoc (hs1.keep' hwider hkp hks));obtain⟨m,b,e1,e2,e3⟩:=hkd1;exact⟨m,b,e1,A2U hrow1 hg e2 (fun _ _ e=>by cases e),A2U hrow1 hg e3 (fun _ _ e=>by cases e)⟩
end Go.Inv
namespace Go.Inv
open Go.Sh
theorem C2A(src:A6)(n:Nat):C0l src (A0Q src n):=fun st st' l hw h=>A2N n st st' l hw h
theorem C7k{t:A6}(h:A9h t=none):(t==A1a)=false∧(t==U4)=false∧(t==A9K)=false∧(t==A0Z)=false:=by
 unfold A9h at h;split at h
 ·cases h
 ·split at h
  ·cases h
  ·split at h
   ·cases h
   ·split at h
    ·cases h
    ·simp_all
theorem C7j{src:A6}{n f:Nat}{rd:RS→Option (P0 G0)}{st:RS}(h:A9h (L5 src st)=some f):∃x,A0T src n rd st=some x:=by
 unfold A9h at h;unfold A0T;simp only;split at h
 ·rename_i hb;rw[if_pos hb];exact⟨_,rfl⟩
 ·rename_i hb;rw[if_neg hb];split at h
  ·rename_i hb;rw[if_pos hb];exact⟨_,rfl⟩
  ·rename_i hb;rw[if_neg hb];split at h
   ·rename_i hb;rw[if_pos hb];exact⟨_,rfl⟩
   ·rename_i hb;rw[if_neg hb];split at h
    ·rename_i hb;rw[if_pos hb];exact⟨_,rfl⟩
    ·cases h
def D4H(s:V5):P0 G0→P0 G0
 | .ok l st=>.ok (.cons s l) st
 | .err a e=>.err a e
theorem C1O(done:List V5)(s:V5)(q:P0 G0):C4D done (D4H s q)=C4D (done++[s]) q:=by
 cases q<;>simp only[D4H,C4D,C2f]
theorem D2X(done:List V5)(a e:Nat):C4D done (.err a e)= .err a e:=rfl
theorem C3Y{src:A6}{k:Nat}{st:RS}{x:Option (P0 V5)}{res1:P0 G0}(hx:A0T src k (A0Q src k) st=some x)(h:A0Q src (k+1) st=some res1):
 (∃s st' q,x=some (.ok s st')∧A0Q src k st'=some q∧res1=D4H s q)∨∃a e,x=some (.err a e)∧res1= .err a e:=by
 simp only[A0Q,hx]at h;rcases H0 h with⟨s,st',h1,h2⟩|⟨a,e,h1,h2⟩
 ·refine .inl ?_;rcases H0 h2 with⟨l,st2,h3,h4⟩|⟨a,e,h3,h4⟩
  ·cases h4;exact⟨s,st',_,h1,h3,rfl⟩
  ·cases h4;exact⟨s,st',_,h1,h3,rfl⟩
 ·exact .inr ⟨a,e,h1,h2⟩
theorem C2p{src:A6}{B r p:Nat}{w:World}{st:RS}(h:I9 src B r p w st)(hae:st.at_≤st.en)(hel:st.en≤src.length):
 Calls pr A1q #[pt r 0] w (Is (vi (A6t (L5 src st))) (dr w)):=by
 refine A6E _ _ _ ?_;unfold A5T;refine A9 (A1J h hae hel) ?_;rintro _ w1 ⟨rfl,rfl⟩;generalize L5 src st=t;simp only[C5,↓Zz2,RV]
 match t with
 |[]=>
  simp only[List.length_nil,show(((0:Nat):Int) !=1)=true from rfl,↓Zz2,RV,yC];exact⟨rfl,rfl⟩
 |c::d::r=>
  have:((((c::d::r).length:Nat):Int) !=1)=true:=by simp[bne];omega
  simp only[this,↓Zz2,RV,yC];exact⟨rfl,rfl⟩
 |[c]=>
  have hc:=c.toNat_lt;simp only[List.length_cons,List.length_nil,show(((0+1:Nat):Int) !=1)=false from rfl,↓Zz2,Zz38,yC];refine T9 (fun h1=>?_) (fun h1=>?_)
  ·rw[h1];simp only[↓Zz2,Zz38,yC];simp only[decide_eq_false_iff_not]at h1;refine D2 (fun h2=>?_) (fun h2=>?_)
   ·simp only[decide_eq_true_eq]at h2;have:A6t [c]=-1:=by simp only[A6t,P4];rw[if_neg om]
    rw[this];exact⟨rfl,rfl⟩
   ·simp only[decide_eq_false_iff_not]at h2;have:A6t [c]=((c.toNat- 97:Nat):Int):=by simp only[A6t,P4];rw[if_pos om]
    simp only[↓Zz2,RV,B0R (show 97≤c.toNat by omega) om,A5D (show c.toNat- 97≤1000000000 by omega)];rw[this];exact⟨rfl,rfl⟩
  ·have h1:decide ((c.toNat:Int)<97)=true:=by revert h1;cases decide ((c.toNat:Int)<97)<;>simp
   rw[h1];simp only[↓Zz2,RV,yC];simp only[decide_eq_true_eq]at h1;have:A6t [c]=-1:=by simp only[A6t,P4];rw[if_neg om]
   rw[this];exact⟨rfl,rfl⟩
theorem D3x{src:A6}{B r p:Nat}{w:World}{st:RS}{res:P0 Nat}(h:I9 src B r p w st)(hae:st.at_≤st.en)(hel:st.en≤src.length)(hsm:src.length≤400)(hres:A6b src st=some res):
 Calls pr A7P #[pt r 0] w (Rd src B r p w D0b res):=by
 refine B2b _ _ _ ?_;unfold B2z;unfold A6b at hres;refine⟨fun vs w'=>∃v,P4 (L5 src st)=some v∧vs=[vi (v:Nat)]∧w'=dr w,?_,?_⟩
 ·rintro e w' ⟨v,hv,he,rfl⟩;have he3:e 3=vi (v:Nat):=by simpa using he
  rw[hv]at hres;cases hres;rw[he3];refine A9 (A4m h.dr hel hsm) ?_;rintro _ w2 ⟨rfl,hfr,hrd⟩;exact⟨(Fr.refl _ _ _ _).dr.trans hfr,_,rfl,hrd,rfl⟩
 refine A9 (C2p h hae hel) ?_;rintro _ w1 ⟨rfl,rfl⟩;simp only[C5,↓Zz2,RV];unfold A6t;cases hv:P4 (L5 src st)with
 |some v=>
  have:decide ((v:Int)<0)=false:=by simp
  simp only[this,RV]
  first|exact⟨v,rfl,rfl,rfl⟩|exact⟨v,rfl,rfl,trivial⟩
 |none=>
  simp only[show decide ((-1:Int)<0)=true from rfl,RV];rw[hv]at hres;cases hres;refine A9 (A6k (α:=Nat) h.dr 2 D0b) ?_;rintro _ w2 ⟨hfr,c,rfl,hc⟩;exact⟨(Fr.refl _ _ _ _).dr.trans hfr,c,rfl,hc⟩
theorem B9E:A1y A4t:=⟨by decide,by decide,by decide⟩
theorem D9O:¬A6W A4t:=by rintro(h|h|h|h)<;>exact absurd h (by decide)
theorem B1o:A1y L4:=⟨by decide,by decide,by decide⟩
theorem D7Z(a:Value)(t:Nat):okRow (some (.cells #[a] t)) 0 1=true:=rfl
theorem E3p(n:Int):[vi n].all G3=true:=rfl
theorem C4E{src:A6}{B r p:Nat}{w0 w:World}{st:RS}(n:Nat)(h:I9 src B r p w st)(hf:Fr B r p w0 w)(hB:B≤w0.heap.size):
 I9 src B r p (put (w.alloc (.cells #[vi 0] L4)) w.heap.size 0 (vi (n:Nat))) st∧Fr B r p w0 (put (w.alloc (.cells #[vi 0] L4)) w.heap.size 0 (vi (n:Nat)))∧
 M8 w (put (w.alloc (.cells #[vi 0] L4)) w.heap.size 0 (vi (n:Nat)))∧N6 (put (w.alloc (.cells #[vi 0] L4)) w.heap.size 0 (vi (n:Nat))) w.heap.size #[vi (n:Nat)] L4:=by
 have hn:N6 (w.alloc (.cells #[vi 0] L4)) w.heap.size #[vi 0] L4:=A5 _;have hs:=hf.size;refine⟨(h.alloc _).put_node hn B1o om,(hf.alloc hB _).put om (.inr (.inr hs)),?_,J9 hn⟩;intro c cs t ht hc;have:=B9 hc;unfold N6;rw[A7 om,D3 om];exact hc
theorem C0t{src:A6}{B r p n:Nat}(hsm:src.length≤400)(IH:∀m,m<n→C0h src B r p (A0Q src m)):C0h src B r p (A0Q src n):=by
 intro w0 st0 res h00 hw0 hop0 hres0;refine B1E _ _ _ ?_;unfold A7C;have hB:=h00.B_le;refine A9 (D3D h00) ?_;rintro _ wk ⟨kd,rfl,hfk,hrk,hkd⟩;simp only[C5];refine⟨StI src B r p w0 n kd res,ChM src r,?_,?_⟩
 ·exact⟨n,[],[],st0,_,res,rfl,Nat.le_refl _,hres0,by cases res<;>rfl,hfk,hrk,hw0,hop0,hkd,Nat.zero_le _,C8f _ _,trivial⟩
 rintro e1 w1 ⟨m,done,xs,st,v,res1,he,hm,hex,rfl,hf,h,hw,hop,hkd,hxl,hrow,hdone⟩;have he4:e1 4=v:=by simpa using he
 rw[he4];cases m with
 |zero=>simp[A0Q]at hex
 |succ k=>
 refine A9 (A1J h hw.ae hw.el) ?_;rintro _ w2 ⟨rfl,rfl⟩;simp only[C5];have hkd1:A4p r (dr w1) kd:=hkd.keep ((Fr.refl B r p w1).dr) h;have⟨nv,hpg,hnv⟩:=h.pg;have hrd:=h.rd;have hP:((dr w1).alloc (.cells #[vi 0] L4)).heap[w1.heap.size]?=some (.cells #[vi 0] L4):=A5 _;have hB1:=h.B_le;have hpa:=C4E st.points h.dr (Fr.refl B r p w1).dr hB1;rw[A8o]at hpa;have hwp:IntKind.i64.wrap ((st.points:Int)+1)=((st.points+1:Nat):Int):=by
  have:=hw.pa;have:=hw.ae;have:=hw.el;rw[H2 om om];omega
 have hsz01:=hf.size;refine D9D hkd1 ?_ ?_
 ·intro f b hkf hbx;obtain⟨x,hx⟩:=C7j (n:=k) (rd:=A0Q src k) hkf;simp only[↓Zz2,RV,hrd,hpg,↓A4l (C5H _),↓D6S C5S,hP,D7Z,E3p,putL];generalize put ((dr w1).alloc (.cells #[vi 0] L4)) w1.heap.size 0 (vi (st.points:Nat))=w3 at hpa⊢;obtain⟨h3,hf3,hk3,hn3⟩:=hpa;have hr3:=h3.rd;have⟨nv3,hp3,hnv3⟩:=h3.pg;simp only[↓Zz2,RV,hr3,hp3,hwp];have h4:=h3.put_points (st.points+1);have hf4:Fr B r p w1 (put w3 p 1 (vi (st.points+1:Nat))):=hf3.put h3.pB (.inr (.inl rfl));have hk4:M8 w3 (put w3 p 1 (vi (st.points+1:Nat))):=((Fr.refl B r p w3).put (b:=p) (i:=1) (v:=vi (st.points+1:Nat)) h3.pB (.inr (.inl rfl))).keepN h3;generalize put w3 p 1 (vi (st.points+1:Nat))=w4 at h4 hf4 hk4⊢;refine A9 (A4m h4 hw.el hsm) ?_;rintro _ w5 ⟨rfl,hf5,h5⟩;have hk5:=hf5.keepN h4;have hn5:w5.heap[w1.heap.size]?=some (.cells #[vi (st.points:Nat)] L4):=(hk4.trans hk5) _ _ _ B1o hn3;simp only[C5,hn5,B1y,↓Zz2,RV];have hbx5:N6 w5 b #[pt r 0] E6:=(((M8.refl w1).dr.trans hk3).trans (hk4.trans hk5)) _ _ _ U9 hbx;have hf15:=hf4.trans hf5;rcases C3Y hx hex with⟨s,st',q,rfl,hq,rfl⟩|⟨a,e,rfl,rfl⟩
  ·obtain⟨hokf,hcall⟩:=C8H hsm (IH k om) (C2A src k) hkf hw hop hx h5 hbx5;unfold kv;simp only[↓Zz2,RV,↓A2H hokf];refine A9 hcall ?_;rintro _ w6 ⟨hf6,vs,rfl,h6,hv6⟩;simp only[C5];obtain⟨t,u,rfl⟩:=hv6.iface;have hf16:=hf15.trans hf6;have hk16:=hf16.keepN h;have hrow5:=hrow.keep (Nat.le_refl _) (hf15.keepN h).keepL;obtain⟨kk,hlt⟩:=A3U (C2A src k) hw hx;have hs15:=hf15.size;have hwid:B6A (C7I w5.heap.size) (Off w0.heap.size v) w6:=fun c hc _=>⟨Nat.le_trans om hc,fun e=>by
    obtain⟨_,cs,ff,hcs⟩:=hrow5.blk e;have:=B9 hcs;have hc:w5.heap.size≤c:=hc;omega⟩
   have hxl':xs.length≤1000000:=by have:=hw.ae;have:=hw.el;omega
   refine push (xs:=xs) (done:=done) (s:=s) (hf.trans hf16) h6 (hkd.keep hf16 h) (hrow.keep (Nat.le_refl _) hk16.keepL) (hdone.keep (fun _ hc _=>hc) hk16.keepP hk16.keepS) hB hxl' (hv6.keep' hwid (M8.refl _).keepP (M8.refl _).keepS) ?_;intro v' w' hf' h' hkd' hrow' hdone';refine⟨⟨k,done++[s],xs++[.iface t u],st',v',q,rfl,om,hq,(C1O done s q),hf',h',kk.wf,by rw[kk.op];exact hop,hkd',by rw[List.length_append];simp only[List.length_cons,List.length_nil];omega,hrow',hdone'⟩,?_⟩;unfold ChM;rw[B1A h',B1A h];have:=kk.wf.ae;have:=kk.wf.el;omega
  ·obtain⟨hokf,hcall⟩:=C8H hsm (IH k om) (C2A src k) hkf hw hop hx h5 hbx5;unfold kv;simp only[↓Zz2,RV,↓A2H hokf];refine A9 hcall ?_;rintro _ w6 ⟨hf6,c,rfl,hc⟩;exact⟨hf.trans (hf15.trans hf6),c,rfl,hc⟩
 ·intro z hkf;simp only[↓Zz2,RV,hrd,hpg,↓A4l (C5H _),↓D6S C5S,hP,D7Z,E3p,putL];generalize put ((dr w1).alloc (.cells #[vi 0] L4)) w1.heap.size 0 (vi (st.points:Nat))=w3 at hpa⊢;obtain⟨h3,hf3,hk3,hn3⟩:=hpa;obtain⟨g1,g2,g3,g4⟩:=C7k hkf;refine A9 (A9M h3 hw) ?_;rintro _ w4 ⟨rfl,rfl⟩;simp only[C5,↓Zz2,RV];cases hv:P4 (L5 src st)with
  |none=>
   have hnone:A0T src k (A0Q src k) st=none:=by
    unfold A0T;simp only[g1,g2,g3,g4,Bool.false_eq_true,if_false,hv]
   simp only[A0Q,hnone]at hex;cases hex;rw[C7L hv];simp only[show decide ((-1:Int)≥0)=false from rfl,RV];have hf14:=hf3.dr;have hk14:=hf14.keepN h;refine⟨hf.trans hf14,v,rfl,h3.dr,xs,hrow.keep (Nat.le_refl _) hk14.keepL,?_⟩;exact(A5i.all hdone).keep' (fun c hc _=>hc.1) hk14.keepP hk14.keepS
  |some vn=>
   rw[B4J hv];have hge:decide (((vn:Nat):Int)≥0)=true:=by simp
   have h3d:=h3.dr;have hr3:=h3.rd;have⟨nv3,hp3,hnv3⟩:=h3.pg;simp only[hge,↓Zz2,RV,hr3,hp3,hwp];simp only[Nat.reduceAdd,Nat.reduceLT,decide_true,RV];have h4:=h3d.put_points (st.points+1);have hf4:Fr B r p w1 (put (dr w3) p 1 (vi (st.points+1:Nat))):=hf3.dr.put h3.pB (.inr (.inl rfl));have hk4:M8 w3 (put (dr w3) p 1 (vi (st.points+1:Nat))):=((Fr.refl B r p w3).dr.put (b:=p) (i:=1) (v:=vi (st.points+1:Nat)) h3.pB (.inr (.inl rfl))).keepN h3;generalize put (dr w3) p 1 (vi (st.points+1:Nat))=w4 at h4 hf4 hk4⊢;have hn4:w4.heap[w1.heap.size]?=some (.cells #[vi (st.points:Nat)] L4):=hk4 _ _ _ B1o hn3;simp only[hn4,B1y,↓Zz2,RV];have hst:A0T src k (A0Q src k) st=some (P0.bind (V8 src [61] (E2 src {st with points:=st.points+1})) fun _ st2=>P0.bind (ex src k .su st2) fun x st3=>
    P0.bind (V8 src [59] st3) fun _ st4=>some (.ok (.set st.points vn x) st4)):=by
    unfold A0T;simp only[g1,g2,g3,g4,Bool.false_eq_true,if_false,hv]
   have hnm:A6b src {st with points:=st.points+1}=some (.ok vn (E2 src {st with points:=st.points+1})):=by
    unfold A6b;have:L5 src {st with points:=st.points+1}=L5 src st:=rfl;rw[this,hv]
   refine A9 (D3x h4.dr hw.ae hw.el hsm hnm) ?_;rintro _ w5 ⟨hf5,_,rfl,h5,rfl⟩;have hk5:=hf5.keepN h4.dr;have hn5:w5.heap[w1.heap.size]?=some (.cells #[vi (st.points:Nat)] L4):=hk5 _ _ _ B1o hn4;simp only[C5,hn5,Zz44,↓Zz2,↓A7I (E0q _ _)];have hw5:Wf src (E2 src {st with points:=st.points+1}):=(Z1 hw (A7n hv) 0 om).wf;have hf15:=hf4.dr.trans hf5;have hs15:=hf15.size;generalize hcs:#[vi (st.points:Nat),vi (vn:Nat),.nilIface]=cs;have hn6:N6 (w5.alloc (.cells cs A4t)) w5.heap.size cs A4t:=A5 _;have hf16:Fr B r p w1 (w5.alloc (.cells cs A4t)):=hf15.alloc hB1 _;have h6:=h5.alloc (.cells cs A4t);have hsz6:(w5.alloc (.cells cs A4t)).heap.size=w5.heap.size+1:=C1 _;generalize w5.alloc (.cells cs A4t)=w6 at*;generalize hd:w5.heap.size=d at*;rcases C3Y hst hex with⟨s,st',q,hsx,hq,rfl⟩|⟨a,e,hsx,rfl⟩
   ·rw[hsx]at hst;obtain⟨_,st2,t1,hsx⟩:=E1 hsx;obtain⟨x,st3,t2,hsx⟩:=E1 hsx;obtain⟨_,st4,t3,hsx⟩:=E1 hsx;cases hsx;have k2:=Z0 hw5 t1;have k3:=L6 k .su _ _ _ k2.wf t2;have k4:=Z0 k3.wf t3;refine A9 (A1R h6 hw5 hsm t1) ?_;rintro _ w7 ⟨hf7,_,rfl,h7,rfl⟩;simp only[C5];refine A9 (B8v hsm k _ _ _ h7 k2.wf (by rw[k2.op];exact hop) t2) ?_;rintro _ w8 ⟨hf8,u,rfl,h8,hu⟩;have hn8:N6 w8 d cs A4t:=((hf7.keepN h6).trans (hf8.keepN h7)) _ _ _ B9E hn6;have hn8':w8.heap[d]?=some (.cells cs A4t):=hn8;have hu1:G3 u=true:=by obtain⟨_,_,rfl⟩:=hu.iface;rfl
    have hcz:decide (2<cs.size)=true:=by rw[←hcs];rfl
    simp only[C5,hn8',hu1,hcz,↓Zz2,RV];have hf18:=(hf16.trans hf7).trans hf8;have hBd:B≤d:=om;have h9:=h8.put_node (i:=2) (v:=u) hn8 B9E hBd;have hf19:Fr B r p w1 (put w8 d 2 u):=hf18.put hBd (.inr (.inr hs15));have hn9:N6 (put w8 d 2 u) d (cs.setIfInBounds 2 u) A4t:=J9 hn8;have hu9:=hu.keepS (M0 (i:=2) (v:=u) hn8 D9O);generalize put w8 d 2 u=w9 at h9 hf19 hn9 hu9⊢;refine A9 (A1R h9 k3.wf hsm t3) ?_;rintro _ wA ⟨hfA,_,rfl,hA,rfl⟩;simp only[C5];have hf1A:=hf19.trans hfA;have hk1A:=hf1A.keepN h;have hnA:N6 wA d #[vi (st.points:Nat),vi (vn:Nat),u] A4t:=by
     have:=(hfA.keepN h9) _ _ _ B9E hn9;rw[←hcs]at this;exact this
    obtain⟨kk,hlt⟩:=A3U (C2A src k) hw hst;have hxl':xs.length≤1000000:=by have:=hw.ae;have:=hw.el;omega
    have hrow5:=hrow.keep (Nat.le_refl _) (hf15.keepN h).keepL;have hoff:Off w0.heap.size v d:=⟨om,fun e=>by
     obtain⟨_,cs,ff,hcs⟩:=hrow5.blk e;have:=B9 hcs;omega⟩
    refine push (xs:=xs) (done:=done) (s:=.set st.points vn x) (hf.trans hf1A) hA (hkd.keep hf1A h) (hrow.keep (Nat.le_refl _) hk1A.keepL) (hdone.keep (fun _ hc _=>hc) hk1A.keepP hk1A.keepS) hB hxl' (by
     simp only[A0D];exact⟨d,u,rfl,hoff,hnA,hu9.keep (hfA.keepN h9)⟩) ?_
    intro v' w' hf' h' hkd' hrow' hdone';refine⟨⟨k,done++[.set st.points vn x],xs++[.iface A3R (pt d 0)],_,v',q,rfl,om,hq,(C1O done _ q),hf',h',kk.wf,by rw[kk.op];exact hop,hkd',by rw[List.length_append];simp only[List.length_cons,List.length_nil];omega,hrow',hdone'⟩,?_⟩;unfold ChM;rw[B1A h',B1A h];have:=kk.wf.ae;have:=kk.wf.el;omega
   ·rw[D2X];rcases H0 hsx with⟨_,st2,t1,hsx⟩|⟨a',e',t1,hsx⟩
    ·have k2:=Z0 hw5 t1;refine A9 (A1R h6 hw5 hsm t1) ?_;rintro _ w7 ⟨hf7,_,rfl,h7,rfl⟩;simp only[C5];rcases H0 hsx with⟨x,st3,t2,hsx⟩|⟨a',e',t2,hsx⟩
     ·have k3:=L6 k .su _ _ _ k2.wf t2;refine A9 (B8v hsm k _ _ _ h7 k2.wf (by rw[k2.op];exact hop) t2) ?_;rintro _ w8 ⟨hf8,u,rfl,h8,hu⟩;have hn8:N6 w8 d cs A4t:=((hf7.keepN h6).trans (hf8.keepN h7)) _ _ _ B9E hn6;have hn8':w8.heap[d]?=some (.cells cs A4t):=hn8;have hu1:G3 u=true:=by obtain⟨_,_,rfl⟩:=hu.iface;rfl
      have hcz:decide (2<cs.size)=true:=by rw[←hcs];rfl
      simp only[C5,hn8',hu1,hcz,↓Zz2,RV];have hBd:B≤d:=om;have h9:=h8.put_node (i:=2) (v:=u) hn8 B9E hBd;have hf19:Fr B r p w1 (put w8 d 2 u):=((hf16.trans hf7).trans hf8).put hBd (.inr (.inr hs15));generalize put w8 d 2 u=w9 at h9 hf19⊢;rcases H0 hsx with⟨_,st4,t3,hsx⟩|⟨a',e',t3,hsx⟩
      ·cases hsx
      ·cases hsx;refine A9 (A1R h9 k3.wf hsm t3) ?_;rintro _ wA ⟨hfA,c,rfl,hc⟩;exact⟨hf.trans (hf19.trans hfA),c,rfl,hc⟩
     ·cases hsx;refine A9 (B8v hsm k _ _ _ h7 k2.wf (by rw[k2.op];exact hop) t2) ?_;rintro _ w8 ⟨hf8,c,rfl,hc⟩;exact⟨hf.trans ((hf16.trans hf7).trans hf8),c,rfl,hc⟩
    ·cases hsx;refine A9 (A1R h6 hw5 hsm t1) ?_;rintro _ w7 ⟨hf7,c,rfl,hc⟩;exact⟨hf.trans (hf16.trans hf7),c,rfl,hc⟩
theorem D8Q{src:A6}{B r p:Nat}(hsm:src.length≤400)(n:Nat):C0h src B r p (A0Q src n):=by
 induction n using Nat.strongRecOn with
 |_ n ih=>exact C0t hsm ih
end Go.Inv
namespace Go.Inv
open Go.Sh
structure D9(w w':World):Prop where
 size:w.heap.size≤w'.heap.size
 old:∀c,c<w.heap.size→w'.heap[c]?=w.heap[c]?
 out:Out w w'
theorem D9.refl(w:World):D9 w w:=⟨Nat.le_refl _,fun _ _=>rfl,.refl _⟩
theorem D9.trans{a b c:World}(h:D9 a b)(g:D9 b c):D9 a c:=⟨Nat.le_trans h.size g.size,fun i hi=>(g.old i (Nat.lt_of_lt_of_le hi h.size)).trans (h.old i hi),h.out.trans g.out⟩
theorem D9.alloc{a b:World}(h:D9 a b)(x:Obj):D9 a (b.alloc x):=⟨by rw[C1];have:=h.size;omega,fun i hi=>by
 have:=h.size;rw[D3 om];exact h.old i hi,h.out.alloc _⟩
theorem D9.dr{a b:World}(h:D9 a b):D9 a (dr b):=⟨h.size,h.old,h.out.dr⟩
theorem D9.put{a b:World}(h:D9 a b){k i:Nat}{v:Value}(hk:a.heap.size≤k):D9 a (put b k i v):=⟨by rw[G2];exact h.size,fun c hc=>by
 rw[A7 om];exact h.old c hc,h.out.put⟩
theorem D9.heap{w w':World}(h:D9 w w'){c:Nat}{x:Obj}(hx:w.heap[c]?=some x):w'.heap[c]?=some x:=by rw[h.old c (B9 hx)];exact hx
theorem Fr.toOld{B r p:Nat}{w w0 w1:World}(h:Fr B r p w0 w1)(hB:w.heap.size≤B)(h0:D9 w w0):D9 w w1:=
 ⟨Nat.le_trans h0.size h.size,fun c hc=>(h.old c om).trans (h0.old c hc),h0.out.trans h.out⟩
def E0K(L:Nat)(w:World)(p:Nat)(pg:A5t):Prop:=
 ∃bv nv,w.heap[p]?=some (.cells #[bv,vi pg.points,vi pg.sites,nv] A3S)∧L≤p∧A0K L w bv pg.body∧A0B L w nv pg.nums
def B4C(w:World)(v:Value)(e a:Nat):Prop:=
 (v= .iface G8 (vi e)∧a=0)∨∃b,v= .iface F7 (pt b 0)∧w.heap[b]?=some (.cells #[vi a,vi e] B3m)
def E3F(w:World)(res:Except (Nat×Nat) A5t):Ye:=fun e w'=>D9 w w'∧match res with
 | .ok pg=>∃p,e= .returned (.tuple #[pt p 0,.nilIface])∧E0K w.heap.size w' p pg
 | .error (x,a)=>∃v,e= .returned (.tuple #[.pointer none,v])∧B4C w' v x a
theorem D6Y(w:World):(A8 .neq 20 .nilIface .nilIface 20).run pr w= .ok (.value (.bool false)) w:=kr
theorem D0S(b:Nat)(w:World):(A8 .neq 20 (.iface F7 (pt b 0)) .nilIface 20).run pr w= .ok (.value (.bool true)) w:=kr
theorem D4T(b:Nat)(w:World):(F0 (.iface F7 (pt b 0)) 20 74 true).run pr w= .ok (.value (.tuple #[pt b 0,.bool true])) w:=kr
theorem E3t(w:World):(B4 70).run pr w= .ok (.value (pt w.heap.size 0)) (w.alloc (.cells #[.pointer none] 70)):=kr
theorem E3v(w:World):(B4 30).run pr w= .ok (.value (pt w.heap.size 0)) (w.alloc (.cells #[.nilIface] 30)):=kr
theorem D4O(w:World):(D0 121 []).run pr w= .ok (.value (.agg #[.slice none 0 0,vi 0,vi 0,.slice none 0 0])) w:=kr
theorem D1z(s:ByteArray)(b:Nat)(w:World):(D0 123 [(0,.string s),(4,pt b 0)]).run pr w= .ok (.value (.agg #[.string s,vi 0,vi 0,vi 0,pt b 0])) w:=kr
theorem C4J:A3J pr A0t=true:=kr
structure A9l(w:World)(a b:Nat)(x y:Value):Prop where
 h1:w.heap[a]?=some (.cells #[x] 70)
 h2:w.heap[b]?=some (.cells #[y] 30)
theorem D0C{a b:Nat}{w:World}{RK:World→Prop}{E:B7}(hK:RK w):dfr pr (.func (.func A0t) #[] #[pt a 0,pt b 0]) RK E .returning w:=by
 refine⟨A0t,#[],#[pt a 0,pt b 0],rfl,C4J,?_⟩;refine A5I (pt a 0) (pt b 0) _ _ _ ?_;unfold A4R;simp only[A4T,D5 (D6Y _),RV,settle];exact hK
theorem C4u{a b f:Nat}{x y:Value}{w:World}{RK:World→Prop}{E:B7}(h:A9l w a b x y)(hab:a≠b)
 (hK:RK (put (put w a 0 (.pointer none)) b 0 (.iface F7 (pt f 0)))):dfr pr (.func (.func A0t) #[] #[pt a 0,pt b 0]) RK E (.panicking [{v:=.iface F7 (pt f 0),recovered:=false}]) w:=by
 refine⟨A0t,#[],#[pt a 0,pt b 0],rfl,C4J,?_⟩;refine A5I (pt a 0) (pt b 0) _ _ _ ?_;unfold A4R;have h1:=h.h1;have h2:=h.h2;simp only[A4T,D5 (D0S _ _),RV];refine⟨fun vs w'=>vs=[pt f 0]∧w'=w,?_,?_⟩
 ·rintro e w' ⟨he,rfl⟩;have he3:e 3=pt f 0:=by simpa using he
  rw[he3];simp only[↓Zz2,RV,h1,A7 hab.symm,h2,settle,List.dropWhile_nil,Nat.reduceLT,Nat.reduceAdd,decide_true];exact hK
 ·simp only[D5 (D4T _ _),↓Zz2,RV,yQ,H7]
theorem I9.old_ne{src:A6}{B r p c:Nat}{w:World}{st:RS}(h:I9 src B r p w st){x:Value}{t:Nat}(hc:w.heap[c]?=some (.cells #[x] t)):c≠r∧c≠p:=by
 obtain⟨nv,hp,_⟩:=h.pg;refine⟨?_,?_⟩
 ·rintro rfl;rw[h.rd]at hc;cases hc
 ·rintro rfl;rw[hp]at hc;cases hc
theorem A9l.keep{src:A6}{B r p a b:Nat}{w w':World}{st:RS}{x y:Value}(hr:I9 src B r p w st)(h:Fr B r p w w')(g:A9l w a b x y):A9l w' a b x y:=
 ⟨h.keep _ _ _ _ g.h1 (by decide) (hr.old_ne g.h1).1 (hr.old_ne g.h1).2,h.keep _ _ _ _ g.h2 (by decide) (hr.old_ne g.h2).1 (hr.old_ne g.h2).2⟩
def E3G(R:Ye)(a b:Nat):World→Prop:=fun w=>rs pr w (pt a 0) 70 fun x=>rs pr w (pt b 0) 30 fun y=>R (.returned (.tuple #[x,y])) w
theorem B9w{R:Ye}{a b:Nat}{w:World}{x y:Value}(h:A9l w a b x y)(hR:R (.returned (.tuple #[x,y])) w):E3G R a b w:=
 D2o D3a (by rw[h.h1];rfl) (D2o C2J (by rw[h.h2];rfl) hR)
theorem D1c{st:RS}{src:A6}{B r p:Nat}{w:World}(hr:w.heap[r]?=some (.cells #[.string (S src),vi st.at_,vi st.en,vi st.op,pt p 0] A9N))(hB:B≤w.heap.size)(e:Nat):
 Calls pr A0v #[pt r 0,vi e] w fun x w'=>Fr B r p w w'∧∃c,x= .panicked c∧C3P w' c st.at_ e:=by
 refine B0a _ _ _ _ ?_;unfold B0b;simp only[↓RT,↓RG,Zz21,hr,↓A4l (C5I _),↓A4l (C5J _ _),↓D2O];exact⟨(Fr.refl _ _ _ _).alloc hB _,_,rfl,w.heap.size,rfl,A5 _⟩
structure RdM(src:A6)(B r p a b:Nat)(x y:Value)(w1 w:World)(st:RS)(l:G0)(bv nv:Value):Prop where
 rd:w.heap[r]?=some (.cells #[.string (S src),vi st.at_,vi st.en,vi st.op,pt p 0] A9N)
 pg:w.heap[p]?=some (.cells #[bv,vi st.points,vi st.sites,nv] A3S)
 sts:A0K (max (p+1) (max (a+1) (b+1))) w bv l
 nums:A0B B w nv st.nums
 fr:Fr B r p w1 w
 res:A9l w a b x y
def RdJ(src:A6)(B r p a b:Nat)(x y:Value)(w1:World)(_:List Value)(w:World):Prop:=
 ∃st l bv nv,A0Q src (steps src) (st0 src)=some (.ok l st)∧¬st.at_<src.length∧RdM src B r p a b x y w1 w st l bv nv
theorem D2a(src:A6):E2 src ⟨0,0,0,0,0,[]⟩=st0 src:=rfl
theorem E4H:¬A6W 70:=by rintro(h|h|h|h)<;>exact absurd h (by decide)
theorem E4I:¬A6W 30:=by rintro(h|h|h|h)<;>exact absurd h (by decide)
theorem E2f:¬A6W A3S:=by rintro(h|h|h|h)<;>exact absurd h (by decide)
theorem A0K.put{L b i t:Nat}{w:World}{v u:Value}{l:G0}{cs:Array Value}(g:A0K L w v l)(hb:b<L)(hn:N6 w b cs t)(ht:¬A6W t):A0K L (put w b i u) v l:=
 g.keep (Nat.le_refl _) (A7U hb) (M0 hn ht)
theorem A0B.put{B b i t:Nat}{w:World}{v u:Value}{l:List Nat}{cs:Array Value}(g:A0B B w v l)(hn:N6 w b cs t)(ht:t≠A0L):A0B B (put w b i u) v l:=
 g.keep fun c cs' hc=>by
  have:c≠b:=by rintro rfl;unfold N6 at hn;rw[hc]at hn;cases hn;exact ht rfl
  rw[A7 this];exact hc
theorem D2K{src:A6}{B r p a b:Nat}{x y:Value}{w1:World}{E:B7}{RD:World→Prop}(hsm:src.length≤400)
 (h:I9 src B r p w1 ⟨0,0,0,0,0,[]⟩)(hres:A9l w1 a b x y)(hab:a≠b)(hal:a<w1.heap.size∧b<w1.heap.size)
 (hE:∀c w' at_ e,Fr B r p w1 w'→A9l w' a b x y→C3P w' c at_ e→(A0Q src (steps src) (st0 src)=some (.err at_ e)∨∃l st,A0Q src (steps src) (st0 src)=some (.ok l st)∧st.at_<src.length∧at_=st.at_∧e=2)→E c w')
 (hRD:∀w st l bv nv,A0Q src (steps src) (st0 src)=some (.ok l st)→¬st.at_<src.length→RdM src B r p a b x y w1 w {st with points:=st.points+1} l bv nv→RD (put (put w a 0 (pt p 0)) b 0 .nilIface)):
 A4Q RD E (.string (S src)) (pt r 0) (pt a 0) (pt b 0) w1:=by
 unfold A4Q;refine A9 (A4m h (Nat.zero_le _) hsm) ?_;rintro _ w2 ⟨rfl,hf2,h2⟩;rw[D2a]at h2;simp only[C5];obtain⟨res,hst⟩:=B5n src;have hr2:=h2.rd;refine⟨RdJ src B r p a b x y w1,?_,?_⟩
 ·rintro _ w ⟨st,l,bv,nv,h1,hlt,M⟩;have hrd:=M.rd;have hpg:=M.pg;have hwp:IntKind.i64.wrap ((st.points:Int)+1)=((st.points+1:Nat):Int):=by
   have k:=A2N _ _ _ _ (B4Q src) h1;have:=k.wf.pa;have:=k.wf.ae;have:=k.wf.el;rw[H2 om om];omega
  have g1:=M.res.h1;have g2:=M.res.h2;have hrp:=h.rp;have hap:a≠p:=(h.old_ne hres.h1).2;have hbp:b≠p:=(h.old_ne hres.h2).2;simp only[↓Zz2,RV,hrd,hpg,hwp,A7 hrp,A7 hap,A7 hbp,g1,g2,A7 hab.symm,Nat.reduceLT,Nat.reduceAdd,decide_true];refine hRD (put w p 1 (vi (st.points+1:Nat))) st l bv nv h1 hlt ⟨by rw[A7 hrp];exact hrd,by rw[C6,hpg];rfl,M.sts.put om (t:=A3S) hpg E2f,M.nums.put (t:=A3S) hpg (by decide),M.fr.put h.pB (.inr (.inl rfl)),⟨by rw[A7 hap];exact g1,by rw[A7 hbp];exact g2⟩⟩
 ·simp only[↓Zz2,RV,hr2];refine A9 (D8Q hsm _ _ _ _ h2.dr (B4Q src) (Nat.zero_le _) hst) ?_;rintro e w3 ⟨hf3,hr3⟩;have hres2:=hres.keep h hf2;have hres3:=(A9l.keep h2 ((Fr.refl B r p w2).dr) hres2).keep h2.dr hf3;cases res with
  |err at_ e=>
   obtain⟨c,rfl,hc⟩:=hr3;exact hE _ _ _ _ (hf2.dr.trans hf3) hres3 hc (.inl hst)
  |ok l st=>
   obtain⟨bv,rfl,h3,hbv⟩:=hr3;have hr3:=h3.rd;obtain⟨nv,hp3,hn3⟩:=h3.pg;have h1v:G3 bv=true:=by obtain⟨xs,hrow,_⟩:=hbv;obtain⟨_,_,_,rfl⟩:=hrow.slice;rfl
   have hrp:=h.rp;have hsz2:=hf2.size;have hplt:p<w1.heap.size:=by obtain⟨_,hp,_⟩:=h.pg;exact B9 hp
   have hbv3:A0K (max (p+1) (max (a+1) (b+1))) w3 bv l:=hbv.keep (by rw[A8o];omega) (M8.refl _).keepL (M8.refl _).keepS
   have M:RdM src B r p a b x y w1 (put w3 p 0 bv) st l bv nv:=⟨by rw[A7 hrp];exact hr3,by rw[C6,hp3];rfl,hbv3.put om (t:=A3S) hp3 E2f,
    hn3.put (t:=A3S) hp3 (by decide),(hf2.dr.trans hf3).put h.pB (.inr (.inl rfl)),
    ⟨by rw[A7 (h.old_ne hres.h1).2];exact hres3.h1,by rw[A7 (h.old_ne hres.h2).2];exact hres3.h2⟩⟩
   simp only[C5,↓Zz2,RV,hr3,hp3,h1v,A7 hrp,Nat.reduceLT,Nat.reduceAdd,decide_true];refine D2 (fun hlt=>?_) (fun hlt=>?_)
   ·have hlt':st.at_<src.length:=by simpa using hlt
    have hB:B≤(put w3 p 0 bv).heap.size:=by rw[G2];exact h3.B_le
    refine A9 (D1c M.rd hB 2) ?_;rintro _ w4 ⟨hf4,c,rfl,hc⟩;refine hE _ _ _ _ (M.fr.trans hf4) ?_ hc (.inr ⟨l,st,hst,hlt',rfl,rfl⟩);exact⟨hf4.keep _ _ _ _ M.res.h1 (by decide) (h.old_ne hres.h1).1 (h.old_ne hres.h1).2,hf4.keep _ _ _ _ M.res.h2 (by decide) (h.old_ne hres.h2).1 (h.old_ne hres.h2).2⟩
   ·refine⟨st,l,bv,nv,hst,by simpa using hlt,M⟩
theorem C8k{src:A6}{w:World}{res:Except (Nat×Nat) A5t}(hrel:A4X w)(hres:A3q src (steps src)=some res):
 Calls pr B0p #[.string (S src)] w (E3F w res):=by
 refine B4S _ _ _ ?_;unfold B1R;obtain⟨T,tf,hrl⟩:=hrel;have hgB:=B9 hrl;simp only[D5 (E3t _),D5 (E3v _),↓Zz2,RV];have ho1:=((D9.refl w).alloc (.cells #[.pointer none] 70)).alloc (.cells #[.nilIface] 30);have hr1:A9l ((w.alloc (.cells #[.pointer none] 70)).alloc (.cells #[.nilIface] 30)) w.heap.size (w.alloc (.cells #[.pointer none] 70)).heap.size (.pointer none) .nilIface:=
  ⟨by rw[D3 (by rw[C1];omega)];exact A5 _,A5 _⟩
 have hs1:((w.alloc (.cells #[.pointer none] 70)).alloc (.cells #[.nilIface] 30)).heap.size=w.heap.size+2:=by rw[C1,C1]
 have hb1:(w.alloc (.cells #[.pointer none] 70)).heap.size=w.heap.size+1:=C1 _;generalize hw1:(w.alloc (.cells #[.pointer none] 70)).alloc (.cells #[.nilIface] 30)=w1 at*;rw[hb1]at hr1⊢;generalize ha:w.heap.size=a at*;unfold A3q at hres;refine D2 (fun hgt=>?_) (fun hgt=>?_)
 ·-- too long
  rw[if_pos (by simp at hgt;omega)]at hres;cases hres;have h1:=hr1.h1;have h2:=hr1.h2;have hne:a+1≠a:=om;simp only[↓Zz2,RV,h1,A7 hne,h2,Nat.reduceLT,Nat.reduceAdd,decide_true];have hr2:A9l (put (put w1 a 0 (.pointer none)) (a+1) 0 (.iface G8 (vi 1))) a (a+1) (.pointer none) (.iface G8 (vi 1)):=
   ⟨by rw[A7 om,C6,h1];rfl,by rw[C6,A7 om,h2];rfl⟩
  refine B9w hr2 ⟨(ho1.put om).put om,_,rfl,.inl ⟨rfl,rfl⟩⟩
 ·rw[if_neg (by simp at hgt;omega)]at hres;have hsm:src.length≤400:=by simp at hgt;omega
  simp only[D5 (D4O _),D5 (D1z _ _ _),↓Zz2,Zz21];refine⟨⟨_,_,_,rfl⟩,?_⟩;have hp2:(w1.alloc (.cells #[.slice none 0 0,vi 0,vi 0,.slice none 0 0] 121)).heap.size=w1.heap.size+1:=C1 _;rw[hp2,hs1];generalize hw3:(w1.alloc (.cells #[.slice none 0 0,vi 0,vi 0,.slice none 0 0] 121)).alloc (.cells #[.string (S src),vi 0,vi 0,vi 0,pt (a+2) 0] 123)=w3;have hs3:w3.heap.size=a+4:=by rw[←hw3,C1,hp2,hs1]
  have hrd3:w3.heap[a+3]?=some (.cells #[.string (S src),vi 0,vi 0,vi 0,pt (a+2) 0] A9N):=by
   rw[←hw3,show a+3=(w1.alloc (.cells #[.slice none 0 0,vi 0,vi 0,.slice none 0 0] 121)).heap.size by omega];exact A5 _
  have hpg3:w3.heap[a+2]?=some (.cells #[.slice none 0 0,vi 0,vi 0,.slice none 0 0] A3S):=by
   rw[←hw3,D3 om,show a+2=w1.heap.size by omega];exact A5 _
  have ho3:D9 w w3:=by rw[←hw3];exact(ho1.alloc _).alloc _
  have hR3:A9l w3 a (a+1) (.pointer none) .nilIface:=by
   rw[←hw3];exact⟨by rw[D3 om,D3 om];exact hr1.h1,by rw[D3 om,D3 om];exact hr1.h2⟩
  have hat:I9 src a (a+3) (a+2) w3 ⟨0,0,0,0,0,[]⟩:=
   ⟨hrd3,⟨_,hpg3,rfl,.inl ⟨rfl,rfl⟩⟩,om,om,om,⟨T,tf,ho3.heap hrl⟩,hgB⟩
  have hWB:w.heap.size≤a:=om;refine D2K hsm hat hR3 om ⟨om,om⟩ ?_ ?_
  ·rintro c w' at_ e hf hR ⟨f,rfl,hfc⟩ hcase;have hne:f≠a∧f≠a+1:=⟨(by intro e0;have:=hR.h1;rw[←e0,hfc]at this;cases this),(by intro e0;have:=hR.h2;rw[←e0,hfc]at this;cases this)⟩;refine C4u hR om ?_;refine B9w (x:=.pointer none) (y:=.iface F7 (pt f 0)) ⟨by rw[A7 om,C6,hR.h1];rfl,by rw[C6,A7 om,hR.h2];rfl⟩ ?_;refine⟨((hf.toOld hWB ho3).put om).put om,?_⟩;have hx:res= .error (e,at_):=by
    rcases hcase with h|⟨l,st,h,hlt,rfl,rfl⟩
    ·rw[h]at hres;cases hres;rfl
    ·rw[h]at hres;simp only[if_pos hlt]at hres;cases hres;rfl
   rw[hx];exact⟨_,rfl,.inr ⟨f,rfl,by rw[A7 hne.2,A7 hne.1];exact hfc⟩⟩
  ·intro w' st l bv nv h1 hlt M;refine D0C ?_;rw[h1]at hres;simp only[if_neg hlt]at hres;cases hres;have g1:=M.res.h1;have g2:=M.res.h2;have hpg:=M.pg;have hn2:N6 (put w' a 0 (pt (a+2) 0)) (a+1) #[.nilIface] 30:=by unfold N6;rw[A7 om];exact g2
   refine B9w (x:=pt (a+2) 0) (y:=.nilIface) ⟨by rw[A7 om,C6,g1];rfl,by rw[C6,A7 om,g2];rfl⟩ ?_;refine⟨((M.fr.toOld hWB ho3).put om).put om,a+2,rfl,bv,nv,by rw[A7 om,A7 om];exact hpg,om,?_,?_⟩
   ·exact((M.sts.put om (t:=70) g1 E4H).put om (t:=30) hn2 E4I).keep om (M8.refl _).keepL (M8.refl _).keepS
   ·have:=(M.nums.put (i:=0) (u:=pt (a+2) 0) (t:=70) g1 (by decide)).put (i:=0) (u:=.nilIface) (t:=30) hn2 (by decide);rw[ha];exact this
end Go.Inv
namespace Go.Inv
open Go.Sh
abbrev i16(n:Int):Value:=.int .i16 n
abbrev A1Z:Nat:=198
abbrev Q7:Nat:=195
end Go.Inv
namespace Go.Inv
open Go.Sh
theorem C7A(b:Nat)(w:World):(F0 (.iface A8j (pt b 0)) A1Z A8j true).run pr w= .ok (.value (.tuple #[pt b 0,.bool true])) w:=kr
theorem C5M(b:Nat)(w:World):(F0 (.iface A8j (pt b 0)) A1Z A4j true).run pr w= .ok (.value (.tuple #[.pointer none,.bool false])) w:=kr
theorem C3A(b:Nat)(w:World):(F0 (.iface A8j (pt b 0)) A1Z A3b true).run pr w= .ok (.value (.tuple #[.pointer none,.bool false])) w:=kr
theorem C7z(b:Nat)(w:World):(F0 (.iface A8j (pt b 0)) A1Z A8i true).run pr w= .ok (.value (.tuple #[.pointer none,.bool false])) w:=kr
theorem C5O(b:Nat)(w:World):(F0 (.iface A4j (pt b 0)) A1Z A8j true).run pr w= .ok (.value (.tuple #[.pointer none,.bool false])) w:=kr
theorem C3B(b:Nat)(w:World):(F0 (.iface A4j (pt b 0)) A1Z A4j true).run pr w= .ok (.value (.tuple #[pt b 0,.bool true])) w:=kr
theorem C1c(b:Nat)(w:World):(F0 (.iface A4j (pt b 0)) A1Z A3b true).run pr w= .ok (.value (.tuple #[.pointer none,.bool false])) w:=kr
theorem C5N(b:Nat)(w:World):(F0 (.iface A4j (pt b 0)) A1Z A8i true).run pr w= .ok (.value (.tuple #[.pointer none,.bool false])) w:=kr
theorem C3D(b:Nat)(w:World):(F0 (.iface A3b (pt b 0)) A1Z A8j true).run pr w= .ok (.value (.tuple #[.pointer none,.bool false])) w:=kr
theorem C1d(b:Nat)(w:World):(F0 (.iface A3b (pt b 0)) A1Z A4j true).run pr w= .ok (.value (.tuple #[.pointer none,.bool false])) w:=kr
theorem C0e(b:Nat)(w:World):(F0 (.iface A3b (pt b 0)) A1Z A3b true).run pr w= .ok (.value (.tuple #[pt b 0,.bool true])) w:=kr
theorem C3C(b:Nat)(w:World):(F0 (.iface A3b (pt b 0)) A1Z A8i true).run pr w= .ok (.value (.tuple #[.pointer none,.bool false])) w:=kr
theorem C7w(b:Nat)(w:World):(F0 (.iface A8i (pt b 0)) A1Z A8j true).run pr w= .ok (.value (.tuple #[.pointer none,.bool false])) w:=kr
theorem C5L(b:Nat)(w:World):(F0 (.iface A8i (pt b 0)) A1Z A4j true).run pr w= .ok (.value (.tuple #[.pointer none,.bool false])) w:=kr
theorem C3y(b:Nat)(w:World):(F0 (.iface A8i (pt b 0)) A1Z A3b true).run pr w= .ok (.value (.tuple #[.pointer none,.bool false])) w:=kr
theorem C7v(b:Nat)(w:World):(F0 (.iface A8i (pt b 0)) A1Z A8i true).run pr w= .ok (.value (.tuple #[pt b 0,.bool true])) w:=kr
theorem C7x(b:Nat)(w:World):(F0 (.iface A3R (pt b 0)) Q7 A3R true).run pr w= .ok (.value (.tuple #[pt b 0,.bool true])) w:=kr
theorem C7y(b:Nat)(w:World):(F0 (.iface A3R (pt b 0)) Q7 A4O true).run pr w= .ok (.value (.tuple #[.pointer none,.bool false])) w:=kr
theorem C1b(b:Nat)(w:World):(F0 (.iface A3R (pt b 0)) Q7 A0c true).run pr w= .ok (.value (.tuple #[.pointer none,.bool false])) w:=kr
theorem D1C(b:Nat)(w:World):(F0 (.iface A3R (pt b 0)) Q7 A7p true).run pr w= .ok (.value (.tuple #[.pointer none,.bool false])) w:=kr
theorem C3z(b:Nat)(w:World):(F0 (.iface A3R (pt b 0)) Q7 A1I true).run pr w= .ok (.value (.tuple #[.pointer none,.bool false])) w:=kr
theorem C7B(b:Nat)(w:World):(F0 (.iface A4O (pt b 0)) Q7 A3R true).run pr w= .ok (.value (.tuple #[.pointer none,.bool false])) w:=kr
theorem C7C(b:Nat)(w:World):(F0 (.iface A4O (pt b 0)) Q7 A4O true).run pr w= .ok (.value (.tuple #[pt b 0,.bool true])) w:=kr
theorem C1e(b:Nat)(w:World):(F0 (.iface A4O (pt b 0)) Q7 A0c true).run pr w= .ok (.value (.tuple #[.pointer none,.bool false])) w:=kr
theorem D1F(b:Nat)(w:World):(F0 (.iface A4O (pt b 0)) Q7 A7p true).run pr w= .ok (.value (.tuple #[.pointer none,.bool false])) w:=kr
theorem C3F(b:Nat)(w:World):(F0 (.iface A4O (pt b 0)) Q7 A1I true).run pr w= .ok (.value (.tuple #[.pointer none,.bool false])) w:=kr
theorem C1f(b:Nat)(w:World):(F0 (.iface A0c (pt b 0)) Q7 A3R true).run pr w= .ok (.value (.tuple #[.pointer none,.bool false])) w:=kr
theorem C1g(b:Nat)(w:World):(F0 (.iface A0c (pt b 0)) Q7 A4O true).run pr w= .ok (.value (.tuple #[.pointer none,.bool false])) w:=kr
theorem B5L(b:Nat)(w:World):(F0 (.iface A0c (pt b 0)) Q7 A0c true).run pr w= .ok (.value (.tuple #[pt b 0,.bool true])) w:=kr
theorem C3G(b:Nat)(w:World):(F0 (.iface A0c (pt b 0)) Q7 A7p true).run pr w= .ok (.value (.tuple #[.pointer none,.bool false])) w:=kr
theorem B7i(b:Nat)(w:World):(F0 (.iface A0c (pt b 0)) Q7 A1I true).run pr w= .ok (.value (.tuple #[.pointer none,.bool false])) w:=kr
theorem D1D(b:Nat)(w:World):(F0 (.iface A7p (pt b 0)) Q7 A3R true).run pr w= .ok (.value (.tuple #[.pointer none,.bool false])) w:=kr
theorem D1E(b:Nat)(w:World):(F0 (.iface A7p (pt b 0)) Q7 A4O true).run pr w= .ok (.value (.tuple #[.pointer none,.bool false])) w:=kr
theorem C3E(b:Nat)(w:World):(F0 (.iface A7p (pt b 0)) Q7 A0c true).run pr w= .ok (.value (.tuple #[.pointer none,.bool false])) w:=kr
theorem D4U(b:Nat)(w:World):(F0 (.iface A7p (pt b 0)) Q7 A7p true).run pr w= .ok (.value (.tuple #[pt b 0,.bool true])) w:=kr
theorem C5P(b:Nat)(w:World):(F0 (.iface A7p (pt b 0)) Q7 A1I true).run pr w= .ok (.value (.tuple #[.pointer none,.bool false])) w:=kr
theorem C3w(b:Nat)(w:World):(F0 (.iface A1I (pt b 0)) Q7 A3R true).run pr w= .ok (.value (.tuple #[.pointer none,.bool false])) w:=kr
theorem C3x(b:Nat)(w:World):(F0 (.iface A1I (pt b 0)) Q7 A4O true).run pr w= .ok (.value (.tuple #[.pointer none,.bool false])) w:=kr
theorem B7h(b:Nat)(w:World):(F0 (.iface A1I (pt b 0)) Q7 A0c true).run pr w= .ok (.value (.tuple #[.pointer none,.bool false])) w:=kr
theorem C5K(b:Nat)(w:World):(F0 (.iface A1I (pt b 0)) Q7 A7p true).run pr w= .ok (.value (.tuple #[.pointer none,.bool false])) w:=kr
theorem C0d(b:Nat)(w:World):(F0 (.iface A1I (pt b 0)) Q7 A1I true).run pr w= .ok (.value (.tuple #[pt b 0,.bool true])) w:=kr
theorem A0N{v v':Value}{t u:Nat}(h:∀w:World,(F0 v t u true).run pr w= .ok (.value v') w):∀E w K,o pr E w (F0 v t u true) K=K v' w:=fun _ w _=>D5 (h w)
def RSm:=(yA (yA (yA (yA (fun b=>A0N (C7A b)) (fun b=>A0N (C5M b))) (yA (fun b=>A0N (C3A b)) (fun b=>A0N (C7z b)))) (yA (yA (fun b=>A0N (C5O b)) (fun b=>A0N (C3B b))) (yA (fun b=>A0N (C1c b)) (fun b=>A0N (C5N b))))) (yA (yA (yA (fun b=>A0N (C3D b)) (fun b=>A0N (C1d b))) (yA (fun b=>A0N (C0e b)) (fun b=>A0N (C3C b)))) (yA (yA (fun b=>A0N (C7w b)) (fun b=>A0N (C5L b))) (yA (fun b=>A0N (C3y b)) (fun b=>A0N (C7v b))))))
def RSt:=(yA (yA (yA (yA (fun b=>A0N (C7x b)) (yA (fun b=>A0N (C7y b)) (fun b=>A0N (C1b b)))) (yA (fun b=>A0N (D1C b)) (yA (fun b=>A0N (C3z b)) (fun b=>A0N (C7B b))))) (yA (yA (fun b=>A0N (C7C b)) (yA (fun b=>A0N (C1e b)) (fun b=>A0N (D1F b)))) (yA (fun b=>A0N (C3F b)) (yA (fun b=>A0N (C1f b)) (fun b=>A0N (C1g b)))))) (yA (yA (yA (fun b=>A0N (B5L b)) (yA (fun b=>A0N (C3G b)) (fun b=>A0N (B7i b)))) (yA (fun b=>A0N (D1D b)) (yA (fun b=>A0N (D1E b)) (fun b=>A0N (C3E b))))) (yA (yA (fun b=>A0N (D4U b)) (yA (fun b=>A0N (C5P b)) (fun b=>A0N (C3w b)))) (yA (yA (fun b=>A0N (C3x b)) (fun b=>A0N (B7h b))) (yA (fun b=>A0N (C5K b)) (fun b=>A0N (C0d b)))))))
theorem D9s:C1N pr A3R "Where" =some (L4,0,R3):=kr
theorem D9t:C1N pr A4O "Where" =some (L4,0,R3):=kr
theorem D0I:C1N pr A0c "Where" =some (L4,0,R3):=kr
theorem E1T:C1N pr A7p "Where" =some (L4,0,R3):=kr
theorem B3T:A3J pr R3=true:=kr
theorem E2K:B0L pr 119=some 1:=kr
theorem M7.heq{w w':World}(h:w'.heap=w.heap){x:Sum}{v:Value}(g:M7 w v x):M7 w' v x:=g.keepS fun c cs t _ hn=>by unfold N6;rw[h];exact hn
theorem D9.keepS{w w':World}(h:D9 w w'):A6Y w w':=fun c cs t _ hn=>h.heap hn
theorem B3k(p:Nat)(w:World):Calls pr R3 #[.agg #[vi p]] w fun e w'=>e= .returned (vi p)∧D9 w w':=by
 refine A8p _ _ _ ?_;unfold A4Z;have hb1:(w.alloc (.cells #[vi p] L4)).heap[w.heap.size]?=some (.cells #[vi p] L4):=A5 _;simp only[↓Zz2,Zz21,hb1]
 first|exact⟨rfl,(D9.refl w).alloc _⟩|exact(D9.refl w).alloc _
end Go.Inv
namespace Go.Inv
open Go.Sh
mutual
def B3s:V5→Nat
 | .set _ _ _=>1
 | .get _ _=>1
 | .assert _ _ _=>1
 | .ite _ _ t e _=>1+(A0r t+A0r e)
 | .loop _ _ b=>1+A0r b
def A0r:G0→Nat
 | .nil=>0
 | .cons s r=>B3s s+A0r r
end
theorem C3X(s:V5):1≤B3s s:=by cases s<;>simp only[B3s]<;>omega
def Bel(B:Nat)(c:Nat):Prop:=c<B
theorem A2t.elem{S:Nat→Prop}{w:World}{v x:Value}{xs:List Value}{i:Nat}(g:A2t S w v xs)(hx:xs[i]?=some x):
 ∃nb cap cs,v= .slice (some ⟨nb,0,none⟩) xs.length cap∧w.heap[nb]?=some (.cells cs A2D)∧cs[i]?=some x∧S nb:=by
 rcases g.1.2 with⟨rfl,hn⟩|⟨nb,cap,c,rfl,h2,h3,h4,h5,h6,h7⟩
 ·have:=(List.getElem?_eq_some_iff.1 hx).1;omega
 ·refine⟨nb,cap,c,rfl,h3,?_,g.2 nb rfl⟩;rw[←h7,List.getElem?_take]at hx;split at hx
  ·simpa using hx
  ·cases hx
theorem A2t.len{S:Nat→Prop}{w:World}{v:Value}{xs:List Value}(g:A2t S w v xs):xs.length≤9223372036854775807:=by
 rcases g.1.2 with⟨_,hn⟩|⟨nb,cap,c,_,h2,h3,h4,h5,_⟩
 ·omega
 ·simp only[maxLen]at h5;omega
theorem C4m(a b c d e:Value)(t:Nat)(f:Nat×Nat):I0 (some (.cells #[a,b,c,d,e] t f)) 1 3=some (.agg #[b,c,d]):=rfl
theorem D2t(a b c d e g h:Value)(t:Nat)(f:Nat×Nat):I0 (some (.cells #[a,b,c,d,e,g,h] t f)) 1 3=some (.agg #[b,c,d]):=rfl
end Go.Inv
namespace Go.Inv
open Go.Sh
def E4l:Array Value:=(Lib.pow10Tab.map fun z=>Value.int .u64 z).toArray
end Go.Inv
