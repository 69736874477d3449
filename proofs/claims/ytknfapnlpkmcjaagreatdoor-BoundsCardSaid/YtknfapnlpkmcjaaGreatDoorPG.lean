/- A part of the proofs of the cards of this seat: whatever the input, each law returns true and leaves its arguments as they were. No condition. -/
import Derived.Test.YtknfapnlpkmcjaaGreatDoorPF
import Derived.Test.YtknfapnlpkmcjaaGreatDoorPA
import Derived.Test.YtknfapnlpkmcjaaGreatDoorPE
import Derived.Test.YtknfapnlpkmcjaaGreatDoorPB
import Derived.Laws.CopyRow
set_option linter.all false
set_option maxRecDepth 100000
set_option maxHeartbeats 32000000
namespace Go.Inv
open Go.Sh
theorem D7E:A0A pr 59=some 7:=kr
theorem C8x:I7 pr 109=true:=kr
theorem C9W:A0A pr 112=some 5:=kr
theorem C8w:I7 pr 114=true:=kr
theorem C5T:A0A pr 116=some 2:=kr
theorem D4t:C3 pr 59 0=some 0:=kr
theorem D4s:C3 pr 59 1=some 1:=kr
theorem D4r:C3 pr 59 2=some 2:=kr
theorem D4q:C3 pr 59 3=some 3:=kr
theorem D4p:C3 pr 59 4=some 4:=kr
theorem D4o:C3 pr 59 5=some 5:=kr
theorem D4n:C3 pr 59 6=some 6:=kr
theorem C9E:C3 pr 100 0=some 0:=kr
theorem C9D:C3 pr 112 0=some 0:=kr
theorem C9C:C3 pr 112 1=some 1:=kr
theorem C9B:C3 pr 112 2=some 2:=kr
theorem C9A:C3 pr 112 3=some 3:=kr
theorem C9z:C3 pr 112 4=some 4:=kr
theorem C9y:C3 pr 116 0=some 0:=kr
theorem C9x:C3 pr 116 1=some 1:=kr
theorem C9b:C3 pr 177 0=some 0:=kr
theorem C9a:C3 pr 177 1=some 1:=kr
theorem C8Z:C3 pr 177 3=some 7:=kr
theorem C8Y:C3 pr 177 4=some 8:=kr
theorem C8X:C3 pr 182 0=some 0:=kr
theorem C8W:C3 pr 182 1=some 1:=kr
theorem E2p:A7W pr 57=true:=kr
theorem D8p:A7W pr 109=true:=kr
def RA4:=(yA (yA (yA (yA (yA (yA (yA (H8 pl2) (F5 pl2)) (yA (F4 pl2) (yA (F6 pl2) (H8 pl3)))) (yA (yA (F5 pl3) (F4 pl3)) (yA (F6 pl3) (yA (H8 pl4) (F5 pl4))))) (yA (yA (yA (F4 pl4) (F6 pl4)) (yA (H8 pl9) (yA (F5 pl9) (F4 pl9)))) (yA (yA (F6 pl9) (H8 A3I)) (yA (F5 A3I) (yA (F4 A3I) (F6 A3I)))))) (yA (yA (yA (yA (H8 C4F) (F5 C4F)) (yA (F4 C4F) (yA (F6 C4F) (H8 B6W)))) (yA (yA (F5 B6W) (F4 B6W)) (yA (F6 B6W) (yA (H8 B1F) (F5 B1F))))) (yA (yA (yA (F4 B1F) (F6 B1F)) (yA (H8 C8x) (yA (F5 C8x) (F4 C8x)))) (yA (yA (F6 C8x) (yA (H8 C8w) (F5 C8w))) (yA (F4 C8w) (yA (F6 C8w) (N3 C1h))))))) (yA (yA (yA (yA (yA (J7 C1h) (J6 C1h)) (yA (J8 C1h) (yA (N3 D7E) (J7 D7E)))) (yA (yA (J6 D7E) (J8 D7E)) (yA (N3 B6z) (yA (J7 B6z) (J6 B6z))))) (yA (yA (yA (J8 B6z) (N3 C9W)) (yA (J7 C9W) (yA (J6 C9W) (J8 C9W)))) (yA (yA (N3 C5T) (yA (J7 C5T) (J6 C5T))) (yA (J8 C5T) (yA (N3 A5h) (J7 A5h)))))) (yA (yA (yA (yA (J6 A5h) (J8 A5h)) (yA (N3 B4w) (yA (J7 B4w) (J6 B4w)))) (yA (yA (J8 B4w) (J5 C3l)) (yA (D7 C3l) (yA (J5 C3k) (D7 C3k))))) (yA (yA (yA (J5 D4t) (D7 D4t)) (yA (J5 D4s) (yA (D7 D4s) (J5 D4r)))) (yA (yA (D7 D4r) (yA (J5 D4q) (D7 D4q))) (yA (J5 D4p) (yA (D7 D4p) (J5 D4o)))))))) (yA (yA (yA (yA (yA (yA (D7 D4o) (J5 D4n)) (yA (D7 D4n) (yA (J5 B0I) (D7 B0I)))) (yA (yA (J5 B0H) (D7 B0H)) (yA (J5 B5F) (yA (D7 B5F) (J5 C3j))))) (yA (yA (yA (D7 C3j) (J5 C3i)) (yA (D7 C3i) (yA (J5 C9E) (D7 C9E)))) (yA (yA (J5 B8h) (D7 B8h)) (yA (J5 B8g) (yA (D7 B8g) (J5 B8f)))))) (yA (yA (yA (yA (D7 B8f) (J5 C9D)) (yA (D7 C9D) (yA (J5 C9C) (D7 C9C)))) (yA (yA (J5 C9B) (D7 C9B)) (yA (J5 C9A) (yA (D7 C9A) (J5 C9z))))) (yA (yA (yA (D7 C9z) (J5 C9y)) (yA (D7 C9y) (yA (J5 C9x) (D7 C9x)))) (yA (yA (J5 A6V) (yA (D7 A6V) (J5 A6U))) (yA (D7 A6U) (yA (J5 A6T) (D7 A6T))))))) (yA (yA (yA (yA (yA (J5 A6S) (D7 A6S)) (yA (J5 A6R) (yA (D7 A6R) (J5 A6Q)))) (yA (yA (D7 A6Q) (J5 B1v)) (yA (D7 B1v) (yA (J5 B1u) (D7 B1u))))) (yA (yA (yA (J5 B8a) (D7 B8a)) (yA (J5 C9b) (yA (D7 C9b) (J5 C9a)))) (yA (yA (D7 C9a) (yA (J5 B7Y) (D7 B7Y))) (yA (J5 C8Z) (yA (D7 C8Z) (J5 C8Y)))))) (yA (yA (yA (yA (D7 C8Y) (J5 C8X)) (yA (D7 C8X) (yA (J5 C8W) (D7 C8W)))) (yA (yA (C1D is9) (B5l is9)) (yA (C1C is9) (yA (B5k is9) (D0H is9))))) (yA (yA (yA (C1t is9) (C1F is9)) (yA (B5m is9) (yA (A1X B7g) (A0b B7g)))) (yA (yA (A1X D7k) (yA (A0b D7k) (A1X E2p))) (yA (A0b E2p) (yA (A1X D8p) (A0b D8p)))))))))
def Zz32:=yA @RA4<|yA @RT<|@RG
def Zz27:=yA @RA4<|yA @RA3<|yA @RA2<|yA @RA1<|yA @RT<|@RG
def Zz7:=yA @RA4<|yA @RA1<|yA @RT<|@RG
def A3k(K:Yv)(E:B7)(a0 a1:Value)(w:World):Prop:=
 o pr E w (H1 112 a1) fun t3 w=>
 cl pr E w A6f #[a0] fun t17 w=>
 o pr E w (D6 t17 0) fun t18 w=>
 o pr E w (D6 t17 1) fun t19 w=>
 o pr E w (D6 t17 2) fun t20 w=>
 o pr E w (A8 .neq 3 t19 (vi 0) 3) fun t22 w=>
 B6 t22 (K (.tuple #[(Value.slice none 0 0),(Value.slice none 0 0),t19,t20]) w)
  ((fun(k4:Yv)=>
 o pr E w (C4 112 t3 0) fun t25 w=>
 o pr E w (A1 3 t25) fun t26 w=>
 o pr E w (A8 .neq 3 t26 (vi 0) 3) fun t27 w=>
 (fun(q1:Yv)=>
 D8 t27 true (o pr E w (C4 112 t3 0) fun t29 w=>
 o pr E w (A1 3 t29) fun t30 w=>
 o pr E w (A8 .neq 3 t30 (vi 1) 3) fun t31 w=>
 q1 t31 w)
  (q1 undef w))
 (fun t31_1 w=>
 o pr E w (D1 t27 t31_1 (Value.bool false)) fun t32 w=>
 (fun(q2:Yv)=>
 D8 t32 false (o pr E w (C4 112 t3 1) fun t34 w=>
 o pr E w (A1 3 t34) fun t35 w=>
 o pr E w (A8 .lss 3 t35 (vi 0) 3) fun t36 w=>
 q2 t36 w)
  (q2 undef w))
 (fun t36_1 w=>
 o pr E w (D1 t32 (Value.bool true) t36_1) fun t37 w=>
 (fun(q3:Yv)=>
 D8 t37 false (o pr E w (C4 112 t3 1) fun t39 w=>
 o pr E w (A1 3 t39) fun t40 w=>
 o pr E w (A8 .gtr 3 t40 (vi 4) 3) fun t41 w=>
 q3 t41 w)
  (q3 undef w))
 (fun t41_1 w=>
 o pr E w (D1 t37 (Value.bool true) t41_1) fun t42 w=>
 (fun(q4:Yv)=>
 D8 t42 false (o pr E w (C4 112 t3 2) fun t44 w=>
 o pr E w (A1 3 t44) fun t45 w=>
 o pr E w (A8 .lss 3 t45 (vi 0) 3) fun t46 w=>
 q4 t46 w)
  (q4 undef w))
 (fun t46_1 w=>
 o pr E w (D1 t42 (Value.bool true) t46_1) fun t47 w=>
 (fun(q5:Yv)=>
 D8 t47 false (o pr E w (C4 112 t3 2) fun t49 w=>
 o pr E w (A1 3 t49) fun t50 w=>
 o pr E w (A8 .gtr 3 t50 (vi 3) 3) fun t51 w=>
 q5 t51 w)
  (q5 undef w))
 (fun t51_1 w=>
 o pr E w (D1 t47 (Value.bool true) t51_1) fun t52 w=>
 (fun(q6:Yv)=>
 D8 t52 false (o pr E w (C4 112 t3 3) fun t54 w=>
 o pr E w (A1 3 t54) fun t55 w=>
 o pr E w (A8 .lss 3 t55 (vi 0) 3) fun t56 w=>
 q6 t56 w)
  (q6 undef w))
 (fun t56_1 w=>
 o pr E w (D1 t52 (Value.bool true) t56_1) fun t57 w=>
 D8 t57 false (o pr E w (C4 112 t3 3) fun t59 w=>
 o pr E w (A1 3 t59) fun t60 w=>
 o pr E w (A8 .gtr 3 t60 (vi 3) 3) fun t61 w=>
 o pr E w (D1 t57 (Value.bool true) t61) fun t62_1 w=>
 k4 t62_1 w)
  (o pr E w (D1 t57 (Value.bool true) undef) fun t62_2 w=>
 k4 t62_2 w))))))))
 (fun t62 w=>
 B6 t62 (K (.tuple #[(Value.slice none 0 0),(Value.slice none 0 0),(vi 5),(vi 0)]) w)
  ((fun w=>
 (fun(k6:Yv)=>
 oa pr w (A1 112 t3) fun t64=>
 oz pr (C7 t18) fun t66=>
 oz pr (C4 92 t66 2) fun t67=>
 oa pr w (A1 3 t67) fun t68=>
 oz pr (C7 t18) fun t71=>
 oz pr (C4 92 t71 3) fun t72=>
 oa pr w (A1 3 t72) fun t73=>
 (o pr E w (A0V 109 t68 t68) fun t69 w=>
 rk pr w (A1 3 t72) t73∧
 rk pr w (A1 112 t3) t64∧
 o pr E w (A0V 22 t73 t73) fun t74 w=>
 rk pr w (A1 112 t3) t64∧
 oz pr (D0 177 [(0,t18),(1,t64),(3,t69),(4,t74)]) fun t75=>
 o pr E w (H1 177 t75) fun t76 w=>
 k6 t76 w)∧
 (o pr E w (A0V 22 t73 t73) fun t74_1 w=>
 rk pr w (A1 3 t67) t68∧
 rk pr w (A1 112 t3) t64∧
 o pr E w (A0V 109 t68 t68) fun t69_1 w=>
 rk pr w (A1 112 t3) t64∧
 oz pr (D0 177 [(0,t18),(1,t64),(3,t69_1),(4,t74_1)]) fun t75_1=>
 o pr E w (H1 177 t75_1) fun t76_1 w=>
 k6 t76_1 w))
 (fun t11 w=>
 ∃(I1:Yl) (m1:Yn),I1 [(vi 0)] w∧
 ∀(e1:Nat→Value) w1,I1 [e1 12] w1→(fun w=>
 o pr E w (C7 t18) fun t79 w=>
 o pr E w (C4 92 t79 2) fun t80 w=>
 o pr E w (A1 3 t80) fun t81 w=>
 o pr E w (E9 .lss 3 (e1 12) t81 3) fun t82 w=>
 B6 t82 ((fun w=>
 oz pr (C7 t11) fun t86=>
 oz pr (C4 177 t86 3) fun t87=>
 oa pr w (A1 109 t87) fun t88=>
 cl pr E w O6 #[] fun t90 w=>
 rk pr w (A1 109 t87) t88∧
 oz pr (X0 109 t88 (e1 12)) fun t91=>
 o pr E w (A2 116 t91 t90) fun _ w=>
 o pr E w (A8 .add 3 (e1 12) (vi 1) 3) fun t84 w=>
 I1 [t84] w∧m1 [t84] w<m1 [e1 12] w1) (dr w))
  (∃(I2:Yl) (m2:Yn),I2 [(vi 0)] w∧
 ∀(e2:Nat→Value) w2,I2 [e2 13] w2→(fun w=>
 (fun(k12:Yv)=>
 o pr E w (C4 112 t3 4) fun t92 w=>
 o pr E w (A1 4 t92) fun t93 w=>
 D8 t93 true (o pr E w (C7 t18) fun t97 w=>
 o pr E w (C4 92 t97 4) fun t98 w=>
 o pr E w (A1 22 t98) fun t99 w=>
 o pr E w (sB .len [22] 3 [t99]) fun t100 w=>
 o pr E w (E9 .lss 3 (e2 13) t100 3) fun t101 w=>
 o pr E w (D1 t93 t101 (Value.bool false)) fun t102_1 w=>
 k12 t102_1 w)
  (o pr E w (D1 t93 undef (Value.bool false)) fun t102_2 w=>
 k12 t102_2 w))
 (fun t102 w=>
 B6 t102 ((fun w=>
 oz pr (C7 t11) fun t107=>
 oz pr (C4 177 t107 2) fun t108=>
 oa pr w (A1 22 t108) fun t109=>
 oz pr (C7 t18) fun t111=>
 oz pr (C4 92 t111 4) fun t112=>
 oa pr w (A1 22 t112) fun t113=>
 oz pr (X0 22 t113 (e2 13)) fun t115=>
 oa pr w (A1 3 t115) fun t116=>
 oz pr (C7 t18) fun t118=>
 oz pr (C4 92 t118 4) fun t119=>
 oa pr w (A1 22 t119) fun t120=>
 oz pr (X0 22 t120 (e2 13)) fun t122=>
 oa pr w (A1 3 t122) fun t123=>
 oz pr (sUn .neg 3 t123) fun t124=>
 o pr E w (F2 22 2 [(0,t116),(1,t124)]) fun t125 w=>
 rk pr w (A1 22 t108) t109∧
 o pr E w (sB .append [22,22] 22 [t109,t125]) fun t126 w=>
 oz pr (C7 t11) fun t127=>
 oz pr (C4 177 t127 2) fun t128=>
 o pr E w (A2 22 t128 t126) fun _ w=>
 o pr E w (A8 .add 3 (e2 13) (vi 1) 3) fun t104 w=>
 I2 [t104] w∧m2 [t104] w<m2 [e2 13] w2) (dr w))
  (o pr E w (A0V 114 (vi 8) (vi 8)) fun t129 w=>
 o pr E w (D0 116 [(1,t129)]) fun t130 w=>
 o pr E w (B4 116) fun t14 w=>
 o pr E w (A2 116 t14 t130) fun _ w=>
 (fun w=>
 oz pr (C7 t18) fun t133=>
 oz pr (C4 92 t133 1) fun t134=>
 oa pr w (A1 3 t134) fun t135=>
 oa pr w (A1 116 t14) fun t136=>
 cl pr E w H9 #[t11,t135,t136,(Value.bool true)] fun t137 w=>
 o pr E w (A2 116 t14 t137) fun _ w=>
 (fun w=>
 oz pr (C7 t18) fun t140=>
 oz pr (C4 92 t140 2) fun t141=>
 oa pr w (A1 3 t141) fun t142=>
 oz pr (A8 .sub 3 t142 (vi 1) 3) fun t143=>
 oa pr w (A1 116 t14) fun t144=>
 cl pr E w N8 #[t11,t143,t144,(Value.bool true)] fun _ w=>
 (fun w=>
 oz pr (C7 t11) fun t147=>
 oz pr (C4 177 t147 3) fun t148=>
 oa pr w (A1 109 t148) fun t149=>
 oz pr (C7 t11) fun t151=>
 oz pr (C4 177 t151 4) fun t152=>
 oa pr w (A1 22 t152) fun t153=>
 K (.tuple #[t149,t153,(vi 0),(vi 0)]) w) (dr w)) (dr w)) (dr w)))) w2)) w1)) (dr w))))
def B9L:E0:=[(1,[0,3]),(2,[3,8,9,10]),(3,[3,8,9,10,22]),(4,[3,8]),(5,[3,8,62]),(6,[3,8]),(7,[3,8,11]),(8,[3,8,11,12]),(9,[3,8,11,12]),(10,[3,8,11,12]),(11,[3,8,11]),(12,[3,8,11,13]),(13,[3,8,11,13]),(14,[3,8,11,13]),(15,[8,11]),(16,[8,11,14]),(17,[8,11,14]),(18,[11])]
theorem A3j(a0 a1:Value)(w:World)(R:Ye)
 (h:A3k (fun v w=>R (.returned v) w) (fun c w=>R (.panicked c) w) a0 a1 w):Calls pr A0u #[a0,a1] w R:=
 B8 (A:=B9L) D4 E3 Go.Proofs.Tryz.func41 kr kr kr
  (Eq.mp kr h)
def B6b(K:Yv)(E:B7)(w:World):Prop:=
 o pr E w (B4 116) fun t0 w=>
 o pr E w (D0 116 [(0,(Value.bool true))]) fun t1 w=>
 o pr E w (A2 116 t0 t1) fun _ w=>
 rs pr w t0 116 fun v0_0=>
 K v0_0 w
def C5b:E0:=[(1,[0])]
theorem B8P(w:World)(R:Ye)
 (h:B6b (fun v w=>R (.returned v) w) (fun c w=>R (.panicked c) w) w):Calls pr O6 #[] w R:=
 B8 (A:=C5b) D4 E3 Go.Proofs.Tryz.func64 kr kr kr
  (Eq.mp kr h)
def A4A(K:Yv)(E:B7)(a0 a1 a2 a3:Value)(w:World):Prop:=
 o pr E w (H1 116 a2) fun t6 w=>
 o pr E w (B4 116) fun t8 w=>
 ∃(I1:Yl) (m1:Yn),I1 [a1] w∧
 ∀(e1:Nat→Value) w1,I1 [e1 1] w1→(fun w=>
 o pr E w (A8 .geq 3 (e1 1) (vi 0) 3) fun t18 w=>
 B6 t18 (o pr E w (C7 a0) fun t20 w=>
 o pr E w (C4 177 t20 0) fun t21 w=>
 o pr E w (A1 83 t21) fun t22 w=>
 o pr E w (C7 t22) fun t23 w=>
 o pr E w (C4 92 t23 0) fun t24 w=>
 o pr E w (A1 90 t24) fun t25 w=>
 o pr E w (X0 90 t25 (e1 1)) fun t27 w=>
 o pr E w (A1 151 t27) fun t28 w=>
 o pr E w (B4 151) fun t9 w=>
 o pr E w (A2 151 t9 t28) fun _ w=>
 ∃j2:Yl,(∀(e2:Nat→Value) w,j2 [] w→
 ∃j3:Yl,(∀(e3:Nat→Value) w,j3 [] w→
 o pr E w (C4 151 t9 5) fun t128 w=>
 o pr E w (A1 3 t128) fun t129 w=>
 I1 [t129] w∧m1 [t129] w<m1 [e1 1] w1)∧
 o pr E w (C4 151 t9 0) fun t41 w=>
 o pr E w (A1 3 t41) fun t42 w=>
 o pr E w (A8 .eql 3 t42 (vi 6) 3) fun t44 w=>
 B6 t44 (o pr E w (C4 151 t9 1) fun t47 w=>
 o pr E w (A1 3 t47) fun t48 w=>
 o pr E w (A1 116 t6) fun t49 w=>
 cl pr E w N0 #[a0,t48,t49,a3] fun t51 w=>
 o pr E w (D6 t51 0) fun t52 w=>
 o pr E w (D6 t51 1) fun t53 w=>
 o pr E w (B4 182) fun t10 w=>
 o pr E w (A2 182 t10 t52) fun _ w=>
 B6 t53 (o pr E w (A1 116 t6) fun t55 w=>
 o pr E w (C4 151 t9 4) fun t56 w=>
 o pr E w (A1 3 t56) fun t57 w=>
 o pr E w (A1 182 t10) fun t58 w=>
 cl pr E w R5 #[t55,t57,t58] fun t59 w=>
 o pr E w (A2 116 t6 t59) fun _ w=>
 j3 [] w)
  (cl pr E w O6 #[] fun t60 w=>
 o pr E w (A2 116 t6 t60) fun _ w=>
 j3 [] w))
  (o pr E w (A8 .eql 3 t42 (vi 7) 3) fun t62 w=>
 B6 t62 (o pr E w (C7 a0) fun t64 w=>
 o pr E w (C4 177 t64 1) fun t65 w=>
 o pr E w (C4 112 t65 0) fun t66 w=>
 o pr E w (A1 3 t66) fun t67 w=>
 cl pr E w A6L #[t67] fun t68 w=>
 o pr E w (B4 182) fun t12 w=>
 o pr E w (A2 182 t12 t68) fun _ w=>
 o pr E w (A1 116 t6) fun t69 w=>
 o pr E w (C4 151 t9 4) fun t70 w=>
 o pr E w (A1 3 t70) fun t71 w=>
 o pr E w (A1 182 t12) fun t72 w=>
 cl pr E w R5 #[t69,t71,t72] fun t73 w=>
 o pr E w (A2 116 t6 t73) fun _ w=>
 j3 [] w)
  (o pr E w (A8 .eql 3 t42 (vi 8) 3) fun t75 w=>
 B6 t75 (o pr E w (C4 151 t9 1) fun t78 w=>
 o pr E w (A1 3 t78) fun t79 w=>
 o pr E w (A1 116 t6) fun t80 w=>
 cl pr E w N4 #[a0,t79,t80,a3] fun t82 w=>
 o pr E w (D6 t82 0) fun t83 w=>
 o pr E w (D6 t82 1) fun t84 w=>
 o pr E w (B4 116) fun t13 w=>
 o pr E w (B4 116) fun t14 w=>
 o pr E w (A2 116 t13 t83) fun _ w=>
 o pr E w (A2 116 t14 t84) fun _ w=>
 o pr E w (C4 151 t9 7) fun t86 w=>
 o pr E w (A1 3 t86) fun t87 w=>
 o pr E w (C4 116 t14 0) fun t88 w=>
 o pr E w (A1 4 t88) fun t89 w=>
 o pr E w (sUn .not 4 t89) fun t90 w=>
 cl pr E w A0n #[a0,t87,t90,a3] fun _ w=>
 o pr E w (A1 116 t13) fun t93 w=>
 o pr E w (A2 116 t6 t93) fun _ w=>
 j3 [] w)
  (o pr E w (A8 .eql 3 t42 (vi 9) 3) fun t95 w=>
 B6 t95 (o pr E w (C4 151 t9 1) fun t98 w=>
 o pr E w (A1 3 t98) fun t99 w=>
 o pr E w (A1 116 t6) fun t100 w=>
 cl pr E w N4 #[a0,t99,t100,a3] fun t102 w=>
 o pr E w (D6 t102 0) fun t103 w=>
 o pr E w (D6 t102 1) fun t104 w=>
 o pr E w (B4 116) fun t15 w=>
 o pr E w (B4 116) fun t16 w=>
 o pr E w (A2 116 t15 t103) fun _ w=>
 o pr E w (A2 116 t16 t104) fun _ w=>
 o pr E w (C4 151 t9 2) fun t106 w=>
 o pr E w (A1 3 t106) fun t107 w=>
 o pr E w (A1 116 t15) fun t108 w=>
 cl pr E w H9 #[a0,t107,t108,a3] fun t110 w=>
 o pr E w (A2 116 t15 t110) fun _ w=>
 o pr E w (C4 151 t9 3) fun t112 w=>
 o pr E w (A1 3 t112) fun t113 w=>
 o pr E w (A1 116 t16) fun t114 w=>
 cl pr E w H9 #[a0,t113,t114,a3] fun t116 w=>
 o pr E w (A2 116 t16 t116) fun _ w=>
 o pr E w (A1 116 t15) fun t118 w=>
 o pr E w (A1 116 t16) fun t119 w=>
 cl pr E w L3 #[a0,t118,t119] fun t120 w=>
 o pr E w (A2 116 t6 t120) fun _ w=>
 j3 [] w)
  (o pr E w (A8 .eql 3 t42 (vi 10) 3) fun t122 w=>
 B6 t122 (o pr E w (A1 151 t9) fun t124 w=>
 o pr E w (A1 116 t6) fun t125 w=>
 cl pr E w A2c #[a0,t124,t125,a3] fun t127 w=>
 o pr E w (A2 116 t6 t127) fun _ w=>
 j3 [] w)
  (j3 [] w))))))∧
 o pr E w (C4 116 t6 0) fun t29 w=>
 o pr E w (A1 4 t29) fun t30 w=>
 B6 t30 (o pr E w (A1 116 t6) fun t31 w=>
 o pr E w (A2 116 t8 t31) fun _ w=>
 rs pr w t8 116 fun v0_0=>
 K v0_0 w)
  (o pr E w (C4 151 t9 0) fun t32 w=>
 o pr E w (A1 3 t32) fun t33 w=>
 o pr E w (A8 .neq 3 t33 (vi 10) 3) fun t34 w=>
 B6 t34 (o pr E w (C4 151 t9 8) fun t36 w=>
 o pr E w (A1 3 t36) fun t37 w=>
 o pr E w (A1 116 t6) fun t38 w=>
 cl pr E w N8 #[a0,t37,t38,a3] fun _ w=>
 j2 [] w)
  (j2 [] w)))
  (o pr E w (A1 116 t6) fun t130 w=>
 o pr E w (A2 116 t8 t130) fun _ w=>
 rs pr w t8 116 fun v0_1=>
 K v0_1 w)) w1
def B0A:E0:=[(1,[0,1,3,6,8]),(2,[0,1,3,6,8]),(3,[0,3,6,8,9]),(4,[0,3,6,8,9,30]),(5,[0,3,6,8,9]),(6,[0,3,6,8,9,34]),(7,[0,3,6,8,9]),(8,[0,3,6,8,9,42]),(9,[0,3,6,8,9,42,43]),(10,[0,3,6,8,9,10,11]),(11,[0,3,6,8,9,10,54]),(14,[0,3,6,8,9,42,61]),(15,[0,3,6,8,9,12]),(17,[0,3,6,8,9,42,74]),(18,[0,3,6,8,9,13,14]),(19,[0,3,6,8,9,13]),(21,[0,3,6,8,9,42,94]),(22,[0,3,6,8,9,15,16]),(23,[0,3,6,8,9,15,16]),(24,[0,3,6,8,9,15,16]),(26,[0,3,6,8,9,121]),(27,[0,3,6,8,9]),(28,[6,8])]
theorem A7A(a0 a1 a2 a3:Value)(w:World)(R:Ye)
 (h:A4A (fun v w=>R (.returned v) w) (fun c w=>R (.panicked c) w) a0 a1 a2 a3 w):Calls pr H9 #[a0,a1,a2,a3] w R:=
 B8 (A:=B0A) D4 E3 Go.Proofs.Tryz.func65 kr kr kr
  (Eq.mp kr h)
def A4B(K:Yv)(E:B7)(a0 a1 a2 a3:Value)(w:World):Prop:=
 o pr E w (H1 116 a2) fun t6 w=>
 (fun(k1:Yv)=>
 D8 a3 true (o pr E w (C4 116 t6 0) fun t10 w=>
 o pr E w (A1 4 t10) fun t11 w=>
 o pr E w (sUn .not 4 t11) fun t12 w=>
 o pr E w (D1 a3 t12 (Value.bool false)) fun t13_1 w=>
 k1 t13_1 w)
  (o pr E w (D1 a3 undef (Value.bool false)) fun t13_2 w=>
 k1 t13_2 w))
 (fun t13 w=>
 B6 t13 ((fun w=>
 oz pr (C7 a0) fun t15=>
 oz pr (C4 177 t15 3) fun t16=>
 oa pr w (A1 109 t16) fun t17=>
 oz pr (C7 a0) fun t21=>
 oz pr (C4 177 t21 3) fun t22=>
 oa pr w (A1 109 t22) fun t23=>
 oz pr (X0 109 t23 a1) fun t25=>
 oa pr w (A1 116 t25) fun t26=>
 oa pr w (A1 116 t6) fun t27=>
 cl pr E w L3 #[a0,t26,t27] fun t28 w=>
 rk pr w (A1 109 t16) t17∧
 oz pr (X0 109 t17 a1) fun t29=>
 o pr E w (A2 116 t29 t28) fun _ w=>
 K (.tuple #[]) w) (dr w))
  (K (.tuple #[]) w))
def B0B:E0:=[(1,[0,1,3,6]),(2,[0,1,6,13])]
theorem A7B(a0 a1 a2 a3:Value)(w:World)(R:Ye)
 (h:A4B (fun v w=>R (.returned v) w) (fun c w=>R (.panicked c) w) a0 a1 a2 a3 w):Calls pr N8 #[a0,a1,a2,a3] w R:=
 B8 (A:=B0B) D4 E3 Go.Proofs.Tryz.func66 kr kr kr
  (Eq.mp kr h)
def U5(K:Yv)(E:B7)(a0 a1 a2 a3:Value)(w:World):Prop:=
 o pr E w (H1 116 a2) fun t6 w=>
 o pr E w (B4 182) fun t8 w=>
 o pr E w (C7 a0) fun t19 w=>
 o pr E w (C4 177 t19 0) fun t20 w=>
 o pr E w (A1 83 t20) fun t21 w=>
 o pr E w (C7 t21) fun t22 w=>
 o pr E w (C4 92 t22 0) fun t23 w=>
 o pr E w (A1 90 t23) fun t24 w=>
 o pr E w (X0 90 t24 a1) fun t26 w=>
 o pr E w (A1 151 t26) fun t27 w=>
 o pr E w (B4 151) fun t10 w=>
 o pr E w (A2 151 t10 t27) fun _ w=>
 o pr E w (C4 151 t10 0) fun t28 w=>
 o pr E w (A1 3 t28) fun t29 w=>
 o pr E w (A8 .eql 3 t29 (vi 1) 3) fun t31 w=>
 B6 t31 ((fun w=>
 (fun(k4:Yv)=>
 oz pr (C7 a0) fun t33=>
 oz pr (C4 177 t33 1) fun t34=>
 oz pr (C4 112 t34 0) fun t35=>
 oa pr w (A1 3 t35) fun t36=>
 oz pr (C4 151 t10 4) fun t37=>
 oa pr w (A1 3 t37) fun t38=>
 (cl pr E w A6e #[t36,t38] fun t39 w=>
 o pr E w (B4 182) fun t11_1 w=>
 o pr E w (A2 182 t11_1 t39) fun _ w=>
 k4 t11_1 w)∧
 (o pr E w (B4 182) fun t11_2 w=>
 rk pr w (A1 3 t37) t38∧
 rk pr w (A1 3 t35) t36∧
 cl pr E w A6e #[t36,t38] fun t39_1 w=>
 o pr E w (A2 182 t11_2 t39_1) fun _ w=>
 k4 t11_2 w))
 (fun t11 w=>
 o pr E w (A1 182 t11) fun t40 w=>
 o pr E w (A2 182 t8 t40) fun _ w=>
 rs pr w t8 182 fun v0_0=>
 K (.tuple #[v0_0,(Value.bool true)]) w)) (dr w))
  (o pr E w (A8 .eql 3 t29 (vi 2) 3) fun t42 w=>
 B6 t42 (o pr E w (C4 116 t6 1) fun t43 w=>
 o pr E w (A1 114 t43) fun t44 w=>
 o pr E w (C4 151 t10 4) fun t45 w=>
 o pr E w (A1 3 t45) fun t46 w=>
 o pr E w (X0 114 t44 t46) fun t47 w=>
 o pr E w (A1 182 t47) fun t48 w=>
 o pr E w (A2 182 t8 t48) fun _ w=>
 rs pr w t8 182 fun v0_1=>
 K (.tuple #[v0_1,(Value.bool true)]) w)
  (o pr E w (A8 .eql 3 t29 (vi 3) 3) fun t50 w=>
 B6 t50 (o pr E w (C4 151 t10 1) fun t53 w=>
 o pr E w (A1 3 t53) fun t54 w=>
 o pr E w (A1 116 t6) fun t55 w=>
 cl pr E w N0 #[a0,t54,t55,a3] fun t57 w=>
 o pr E w (D6 t57 0) fun t58 w=>
 o pr E w (D6 t57 1) fun t59 w=>
 o pr E w (B4 182) fun t12 w=>
 o pr E w (A2 182 t12 t58) fun _ w=>
 o pr E w (sUn .not 4 t59) fun t61 w=>
 B6 t61 (o pr E w (A1 182 t12) fun t62 w=>
 o pr E w (A2 182 t8 t62) fun _ w=>
 rs pr w t8 182 fun v0_2=>
 K (.tuple #[v0_2,(Value.bool false)]) w)
  ((fun w=>
 oz pr (C7 a0) fun t64=>
 oz pr (C4 177 t64 1) fun t65=>
 oz pr (C4 112 t65 0) fun t66=>
 oa pr w (A1 3 t66) fun t67=>
 oa pr w (A1 182 t12) fun t68=>
 cl pr E w A6M #[t67,t68] fun t69 w=>
 o pr E w (A2 182 t12 t69) fun _ w=>
 o pr E w (A1 182 t12) fun t70 w=>
 o pr E w (A2 182 t8 t70) fun _ w=>
 rs pr w t8 182 fun v0_3=>
 K (.tuple #[v0_3,(Value.bool true)]) w) (dr w)))
  (o pr E w (C4 151 t10 1) fun t73 w=>
 o pr E w (A1 3 t73) fun t74 w=>
 o pr E w (A1 116 t6) fun t75 w=>
 cl pr E w N0 #[a0,t74,t75,a3] fun t77 w=>
 o pr E w (D6 t77 0) fun t78 w=>
 o pr E w (D6 t77 1) fun t79 w=>
 o pr E w (B4 182) fun t14 w=>
 o pr E w (A2 182 t14 t78) fun _ w=>
 o pr E w (sUn .not 4 t79) fun t81 w=>
 B6 t81 (o pr E w (A1 182 t14) fun t82 w=>
 o pr E w (A2 182 t8 t82) fun _ w=>
 rs pr w t8 182 fun v0_4=>
 K (.tuple #[v0_4,(Value.bool false)]) w)
  (o pr E w (C4 151 t10 2) fun t85 w=>
 o pr E w (A1 3 t85) fun t86 w=>
 o pr E w (A1 116 t6) fun t87 w=>
 cl pr E w N0 #[a0,t86,t87,a3] fun t89 w=>
 o pr E w (D6 t89 0) fun t90 w=>
 o pr E w (D6 t89 1) fun t91 w=>
 o pr E w (B4 182) fun t16 w=>
 o pr E w (A2 182 t16 t90) fun _ w=>
 o pr E w (sUn .not 4 t91) fun t93 w=>
 B6 t93 (o pr E w (A1 182 t16) fun t94 w=>
 o pr E w (A2 182 t8 t94) fun _ w=>
 rs pr w t8 182 fun v0_5=>
 K (.tuple #[v0_5,(Value.bool false)]) w)
  ((fun w=>
 oa pr w (A1 182 t16) fun t95=>
 oz pr (C7 a0) fun t97=>
 oz pr (C4 177 t97 1) fun t98=>
 oz pr (C4 112 t98 0) fun t99=>
 oa pr w (A1 3 t99) fun t100=>
 cl pr E w A0h #[t95,t100,(vi 0)] fun t101 w=>
 o pr E w (C4 151 t10 7) fun t103 w=>
 o pr E w (A1 3 t103) fun t104 w=>
 cl pr E w A0n #[a0,t104,t101,a3] fun _ w=>
 o pr E w (C7 a0) fun t109 w=>
 o pr E w (C4 177 t109 1) fun t110 w=>
 o pr E w (C4 112 t110 0) fun t111 w=>
 o pr E w (A1 3 t111) fun t112 w=>
 o pr E w (A8 .eql 3 t112 (vi 0) 3) fun t113 w=>
 B6 t113 (o pr E w (A1 182 t14) fun t114 w=>
 o pr E w (C4 151 t10 6) fun t115 w=>
 o pr E w (A1 9 t115) fun t116 w=>
 o pr E w (A1 182 t16) fun t117 w=>
 cl pr E w A3w #[t114,t116,t117] fun t118 w=>
 o pr E w (D6 t118 0) fun t119 w=>
 o pr E w (D6 t118 1) fun t120 w=>
 o pr E w (A2 182 t8 t119) fun _ w=>
 rs pr w t8 182 fun v0_6=>
 K (.tuple #[v0_6,t120]) w)
  (o pr E w (A1 182 t14) fun t121 w=>
 o pr E w (C4 151 t10 6) fun t122 w=>
 o pr E w (A1 9 t122) fun t123 w=>
 o pr E w (A1 182 t16) fun t124 w=>
 cl pr E w A7N #[t121,t123,t124] fun t125 w=>
 o pr E w (D6 t125 0) fun t126 w=>
 o pr E w (D6 t125 1) fun t127 w=>
 o pr E w (A2 182 t8 t126) fun _ w=>
 rs pr w t8 182 fun v0_7=>
 K (.tuple #[v0_7,t127]) w)) (dr w))))))
def A9z:E0:=[(1,[0,1,3,6,8]),(2,[0,3,6,8,10]),(3,[0,3,6,8,10,29]),(4,[0,3,6,8,10,29,30]),(5,[8,11]),(7,[0,3,6,8,10,29,41]),(9,[0,3,6,8,10,49]),(10,[0,8,12,13]),(11,[0,8,12,61]),(12,[0,8,12]),(13,[8,12]),(14,[0,3,6,8,10]),(15,[0,3,6,8,10,14,15]),(16,[0,3,6,8,10,14,81]),(17,[0,3,6,8,10,14]),(18,[0,3,8,10,14,15,16]),(19,[0,3,8,10,14,16,93]),(20,[0,3,8,10,14,16]),(21,[0,3,8,10,14,16,17]),(22,[0,8,10,14,16]),(23,[8,10,14,16,113]),(24,[8,10,14,16])]
theorem V3(a0 a1 a2 a3:Value)(w:World)(R:Ye)
 (h:U5 (fun v w=>R (.returned v) w) (fun c w=>R (.panicked c) w) a0 a1 a2 a3 w):Calls pr N0 #[a0,a1,a2,a3] w R:=
 B8 (A:=A9z) D4 E3 Go.Proofs.Tryz.func101 kr kr kr
  (Eq.mp kr h)
def A6B(K:Yv)(E:B7)(a0 a1 a2:Value)(w:World):Prop:=
 o pr E w (H1 116 a0) fun t3 w=>
 o pr E w (H1 182 a2) fun t5 w=>
 o pr E w (B4 116) fun t6 w=>
 o pr E w (A0V 114 (vi 8) (vi 8)) fun t8 w=>
 o pr E w (C4 116 t3 1) fun t10 w=>
 o pr E w (A1 114 t10) fun t11 w=>
 o pr E w (sB .copy [114,114] 3 [t8,t11]) fun _ w=>
 o pr E w (A1 182 t5) fun t15 w=>
 o pr E w (X0 114 t8 a1) fun t16 w=>
 o pr E w (A2 182 t16 t15) fun _ w=>
 o pr E w (D0 116 [(1,t8)]) fun t18 w=>
 o pr E w (A2 116 t6 t18) fun _ w=>
 rs pr w t6 116 fun v0_0=>
 K v0_0 w
def B4b:E0:=[(1,[1,3,5,6]),(2,[1,3,5,6,7]),(3,[1,5,6,7]),(4,[6,7])]
theorem A9V(a0 a1 a2:Value)(w:World)(R:Ye)
 (h:A6B (fun v w=>R (.returned v) w) (fun c w=>R (.panicked c) w) a0 a1 a2 w):Calls pr R5 #[a0,a1,a2] w R:=
 B8 (A:=B4b) D4 E3 Go.Proofs.Tryz.func102 kr kr kr
  (Eq.mp kr h)
def B3A(K:Yv)(E:B7)(a0:Value)(w:World):Prop:=
 o pr E w (B4 182) fun t2 w=>
 o pr E w (A8 .eql 3 a0 (vi 0) 3) fun t4 w=>
 B6 t4 (o pr E w (D0 182 [(0,(Value.int IntKind.i64 (-32768))),(1,(vi 32767))]) fun t5 w=>
 o pr E w (A2 182 t2 t5) fun _ w=>
 rs pr w t2 182 fun v0_0=>
 K v0_0 w)
  (o pr E w (D0 182 [(0,(vi 1)),(1,(vi 0))]) fun t6 w=>
 o pr E w (A2 182 t2 t6) fun _ w=>
 rs pr w t2 182 fun v0_1=>
 K v0_1 w)
def C2S:E0:=[(1,[0,2]),(2,[2,4]),(3,[2])]
theorem B6K(a0:Value)(w:World)(R:Ye)
 (h:B3A (fun v w=>R (.returned v) w) (fun c w=>R (.panicked c) w) a0 w):Calls pr A6L #[a0] w R:=
 B8 (A:=C2S) D4 E3 Go.Proofs.Tryz.func103 kr kr kr
  (Eq.mp kr h)
def A5c(K:Yv)(E:B7)(a0 a1 a2 a3:Value)(w:World):Prop:=
 o pr E w (H1 116 a2) fun t6 w=>
 o pr E w (B4 116) fun t8 w=>
 o pr E w (B4 116) fun t9 w=>
 o pr E w (C4 116 t6 0) fun t17 w=>
 o pr E w (A1 4 t17) fun t18 w=>
 B6 t18 ((fun w=>
 oa pr w (A1 116 t6) fun t19=>
 oa pr w (A1 116 t6) fun t20=>
 o pr E w (A2 116 t8 t19) fun _ w=>
 rk pr w (A1 116 t6) t20∧
 o pr E w (A2 116 t9 t20) fun _ w=>
 rs pr w t8 116 fun v0_0=>
 rs pr w t9 116 fun v1_1=>
 K (.tuple #[v0_0,v1_1]) w) (dr w))
  (o pr E w (C7 a0) fun t22 w=>
 o pr E w (C4 177 t22 0) fun t23 w=>
 o pr E w (A1 83 t23) fun t24 w=>
 o pr E w (C7 t24) fun t25 w=>
 o pr E w (C4 92 t25 0) fun t26 w=>
 o pr E w (A1 90 t26) fun t27 w=>
 o pr E w (X0 90 t27 a1) fun t29 w=>
 o pr E w (A1 151 t29) fun t30 w=>
 o pr E w (B4 151) fun t10 w=>
 o pr E w (A2 151 t10 t30) fun _ w=>
 o pr E w (C4 151 t10 1) fun t33 w=>
 o pr E w (A1 3 t33) fun t34 w=>
 o pr E w (A1 116 t6) fun t35 w=>
 cl pr E w N0 #[a0,t34,t35,a3] fun t37 w=>
 o pr E w (D6 t37 0) fun t38 w=>
 o pr E w (D6 t37 1) fun t39 w=>
 o pr E w (B4 182) fun t11 w=>
 o pr E w (A2 182 t11 t38) fun _ w=>
 o pr E w (sUn .not 4 t39) fun t41 w=>
 B6 t41 (cl pr E w O6 #[] fun t42 w=>
 cl pr E w O6 #[] fun t43 w=>
 o pr E w (A2 116 t8 t42) fun _ w=>
 o pr E w (A2 116 t9 t43) fun _ w=>
 rs pr w t8 116 fun v0_2=>
 rs pr w t9 116 fun v1_3=>
 K (.tuple #[v0_2,v1_3]) w)
  (o pr E w (C4 151 t10 2) fun t46 w=>
 o pr E w (A1 3 t46) fun t47 w=>
 o pr E w (A1 116 t6) fun t48 w=>
 cl pr E w N0 #[a0,t47,t48,a3] fun t50 w=>
 o pr E w (D6 t50 0) fun t51 w=>
 o pr E w (D6 t50 1) fun t52 w=>
 o pr E w (B4 182) fun t13 w=>
 o pr E w (A2 182 t13 t51) fun _ w=>
 o pr E w (sUn .not 4 t52) fun t54 w=>
 B6 t54 (cl pr E w O6 #[] fun t55 w=>
 cl pr E w O6 #[] fun t56 w=>
 o pr E w (A2 116 t8 t55) fun _ w=>
 o pr E w (A2 116 t9 t56) fun _ w=>
 rs pr w t8 116 fun v0_4=>
 rs pr w t9 116 fun v1_5=>
 K (.tuple #[v0_4,v1_5]) w)
  (o pr E w (A1 116 t6) fun t58 w=>
 o pr E w (A1 151 t10) fun t59 w=>
 o pr E w (A1 182 t11) fun t60 w=>
 o pr E w (A1 182 t13) fun t61 w=>
 o pr E w (C4 151 t10 6) fun t62 w=>
 o pr E w (A1 9 t62) fun t63 w=>
 cl pr E w Z7 #[a0,t58,t59,t60,t61,t63] fun t64 w=>
 o pr E w (B4 116) fun t14 w=>
 o pr E w (A2 116 t14 t64) fun _ w=>
 o pr E w (C4 151 t10 6) fun t65 w=>
 o pr E w (A1 9 t65) fun t66 w=>
 cl pr E w A6g #[t66] fun t67 w=>
 o pr E w (A1 116 t6) fun t69 w=>
 o pr E w (A1 151 t10) fun t70 w=>
 o pr E w (A1 182 t11) fun t71 w=>
 o pr E w (A1 182 t13) fun t72 w=>
 cl pr E w Z7 #[a0,t69,t70,t71,t72,t67] fun t74 w=>
 o pr E w (B4 116) fun t16 w=>
 o pr E w (A2 116 t16 t74) fun _ w=>
 (fun w=>
 oa pr w (A1 116 t14) fun t75=>
 oa pr w (A1 116 t16) fun t76=>
 o pr E w (A2 116 t8 t75) fun _ w=>
 rk pr w (A1 116 t16) t76∧
 o pr E w (A2 116 t9 t76) fun _ w=>
 rs pr w t8 116 fun v0_6=>
 rs pr w t9 116 fun v1_7=>
 K (.tuple #[v0_6,v1_7]) w) (dr w))))
def B1L:E0:=[(1,[0,1,3,6,8,9]),(2,[0,1,3,6,8,9,18]),(3,[0,1,3,6,8,9]),(4,[0,3,6,8,9,10]),(5,[0,3,6,8,9,10,11,12]),(6,[0,3,6,8,9,10,11,41]),(7,[0,3,6,8,9,10,11]),(8,[0,6,8,9,10,11,12,13]),(9,[0,6,8,9,10,11,13,54]),(10,[0,6,8,9,10,11,13]),(11,[0,6,8,9,10,11,13,14]),(12,[0,6,8,9,10,11,13,14,15]),(13,[8,9,14,16])]
theorem A8s(a0 a1 a2 a3:Value)(w:World)(R:Ye)
 (h:A5c (fun v w=>R (.returned v) w) (fun c w=>R (.panicked c) w) a0 a1 a2 a3 w):Calls pr N4 #[a0,a1,a2,a3] w R:=
 B8 (A:=B1L) D4 E3 Go.Proofs.Tryz.func104 kr kr kr
  (Eq.mp kr h)
def A3N(K:Yv)(E:B7)(a0 a1 a2 a3:Value)(w:World):Prop:=
 (fun(k0:Yv)=>
 o pr E w (sUn .not 4 a3) fun t9 w=>
 D8 t9 false (o pr E w (A8 .lss 3 a1 (vi 0) 3) fun t12 w=>
 o pr E w (D1 t9 (Value.bool true) t12) fun t13_1 w=>
 k0 t13_1 w)
  (o pr E w (D1 t9 (Value.bool true) undef) fun t13_2 w=>
 k0 t13_2 w))
 (fun t13 w=>
 B6 t13 (K (.tuple #[]) w)
  (B6 a2 (o pr E w (C7 a0) fun t16 w=>
 o pr E w (C4 177 t16 4) fun t17 w=>
 o pr E w (A1 22 t17) fun t18 w=>
 o pr E w (X0 22 t18 a1) fun t20 w=>
 o pr E w (A2 3 t20 (vi 2)) fun _ w=>
 K (.tuple #[]) w)
  (o pr E w (C7 a0) fun t22 w=>
 o pr E w (C4 177 t22 4) fun t23 w=>
 o pr E w (A1 22 t23) fun t24 w=>
 o pr E w (X0 22 t24 a1) fun t26 w=>
 o pr E w (A1 3 t26) fun t27 w=>
 o pr E w (A8 .eql 3 t27 (vi 0) 3) fun t28 w=>
 B6 t28 (o pr E w (C7 a0) fun t30 w=>
 o pr E w (C4 177 t30 4) fun t31 w=>
 o pr E w (A1 22 t31) fun t32 w=>
 o pr E w (X0 22 t32 a1) fun t34 w=>
 o pr E w (A2 3 t34 (vi 1)) fun _ w=>
 K (.tuple #[]) w)
  (K (.tuple #[]) w))))
def A9A:E0:=[(1,[0,1,2]),(2,[0,1,14]),(4,[0,1,28])]
theorem A7c(a0 a1 a2 a3:Value)(w:World)(R:Ye)
 (h:A3N (fun v w=>R (.returned v) w) (fun c w=>R (.panicked c) w) a0 a1 a2 a3 w):Calls pr A0n #[a0,a1,a2,a3] w R:=
 B8 (A:=A9A) D4 E3 Go.Proofs.Tryz.func105 kr kr kr
  (Eq.mp kr h)
def A4z(K:Yv)(E:B7)(a0 a1 a2:Value)(w:World):Prop:=
 o pr E w (H1 116 a1) fun t4 w=>
 o pr E w (H1 116 a2) fun t5 w=>
 o pr E w (B4 116) fun t6 w=>
 o pr E w (C4 116 t4 0) fun t9 w=>
 o pr E w (A1 4 t9) fun t10 w=>
 B6 t10 (o pr E w (A1 116 t5) fun t11 w=>
 o pr E w (A2 116 t6 t11) fun _ w=>
 rs pr w t6 116 fun v0_0=>
 K v0_0 w)
  (o pr E w (C4 116 t5 0) fun t12 w=>
 o pr E w (A1 4 t12) fun t13 w=>
 B6 t13 (o pr E w (A1 116 t4) fun t14 w=>
 o pr E w (A2 116 t6 t14) fun _ w=>
 rs pr w t6 116 fun v0_1=>
 K v0_1 w)
  (o pr E w (A0V 114 (vi 8) (vi 8)) fun t15 w=>
 ∃(I1:Yl) (m1:Yn),I1 [(vi 0)] w∧
 ∀(e1:Nat→Value) w1,I1 [e1 8] w1→(fun w=>
 o pr E w (A8 .lss 3 (e1 8) (vi 8) 3) fun t17 w=>
 B6 t17 ((fun w=>
 oz pr (C7 a0) fun t23=>
 oz pr (C4 177 t23 1) fun t24=>
 oz pr (C4 112 t24 0) fun t25=>
 oa pr w (A1 3 t25) fun t26=>
 oz pr (C4 116 t4 1) fun t27=>
 oa pr w (A1 114 t27) fun t28=>
 oz pr (X0 114 t28 (e1 8)) fun t30=>
 oa pr w (A1 182 t30) fun t31=>
 oz pr (C4 116 t5 1) fun t32=>
 oa pr w (A1 114 t32) fun t33=>
 oz pr (X0 114 t33 (e1 8)) fun t35=>
 oa pr w (A1 182 t35) fun t36=>
 cl pr E w A8H #[t26,t31,t36] fun t37 w=>
 oz pr (X0 114 t15 (e1 8)) fun t38=>
 o pr E w (A2 182 t38 t37) fun _ w=>
 o pr E w (A8 .add 3 (e1 8) (vi 1) 3) fun t19 w=>
 I1 [t19] w∧m1 [t19] w<m1 [e1 8] w1) (dr w))
  (o pr E w (D0 116 [(1,t15)]) fun t40 w=>
 o pr E w (A2 116 t6 t40) fun _ w=>
 rs pr w t6 116 fun v0_2=>
 K v0_2 w)) w1))
def B0z:E0:=[(1,[0,4,5,6]),(2,[0,4,5,6,10]),(3,[0,4,5,6]),(4,[0,4,5,6,13]),(5,[0,4,5,6]),(6,[0,4,5,6,7]),(7,[0,4,5,6,7,8]),(8,[0,4,5,6,7,8]),(9,[0,4,5,6,7,8]),(10,[6,7])]
theorem A7z(a0 a1 a2:Value)(w:World)(R:Ye)
 (h:A4z (fun v w=>R (.returned v) w) (fun c w=>R (.panicked c) w) a0 a1 a2 w):Calls pr L3 #[a0,a1,a2] w R:=
 B8 (A:=B0z) D4 E3 Go.Proofs.Tryz.func106 kr kr kr
  (Eq.mp kr h)
def A4y(K:Yv)(E:B7)(a0 a1 a2 a3:Value)(w:World):Prop:=
 o pr E w (H1 151 a1) fun t5 w=>
 o pr E w (H1 116 a2) fun t6 w=>
 o pr E w (B4 116) fun t8 w=>
 cl pr E w O6 #[] fun t28 w=>
 o pr E w (B4 116) fun t9 w=>
 o pr E w (A2 116 t9 t28) fun _ w=>
 ∃(I1:Yl) (m1:Yn),I1 [(vi 0)] w∧
 ∀(e1:Nat→Value) w1,I1 [e1 10] w1→(fun w=>
 o pr E w (C7 a0) fun t31 w=>
 o pr E w (C4 177 t31 1) fun t32 w=>
 o pr E w (C4 112 t32 3) fun t33 w=>
 o pr E w (A1 3 t33) fun t34 w=>
 o pr E w (E9 .lss 3 (e1 10) t34 3) fun t35 w=>
 B6 t35 (o pr E w (C4 151 t5 8) fun t39 w=>
 o pr E w (A1 3 t39) fun t40 w=>
 o pr E w (A1 116 t6) fun t41 w=>
 cl pr E w N8 #[a0,t40,t41,a3] fun _ w=>
 o pr E w (C4 151 t5 1) fun t46 w=>
 o pr E w (A1 3 t46) fun t47 w=>
 o pr E w (A1 116 t6) fun t48 w=>
 cl pr E w N4 #[a0,t47,t48,a3] fun t50 w=>
 o pr E w (D6 t50 0) fun t51 w=>
 o pr E w (D6 t50 1) fun t52 w=>
 o pr E w (B4 116) fun t11 w=>
 o pr E w (B4 116) fun t12 w=>
 o pr E w (A2 116 t11 t51) fun _ w=>
 o pr E w (A2 116 t12 t52) fun _ w=>
 o pr E w (A1 116 t9) fun t54 w=>
 o pr E w (A1 116 t12) fun t55 w=>
 cl pr E w L3 #[a0,t54,t55] fun t56 w=>
 o pr E w (A2 116 t9 t56) fun _ w=>
 o pr E w (C4 151 t5 2) fun t58 w=>
 o pr E w (A1 3 t58) fun t59 w=>
 o pr E w (A1 116 t11) fun t60 w=>
 cl pr E w H9 #[a0,t59,t60,a3] fun t62 w=>
 o pr E w (A2 116 t6 t62) fun _ w=>
 o pr E w (A8 .add 3 (e1 10) (vi 1) 3) fun t37 w=>
 I1 [t37] w∧m1 [t37] w<m1 [e1 10] w1)
  (o pr E w (A1 116 t6) fun t63 w=>
 o pr E w (B4 116) fun t13 w=>
 o pr E w (A2 116 t13 t63) fun _ w=>
 ∃(I2:Yl) (m2:Yn),I2 [(vi 1)] w∧
 ∀(e2:Nat→Value) w2,I2 [e2 14] w2→(fun w=>
 ∃j3:Yl,(∀(e3:Nat→Value) w,j3 [] w→
 o pr E w (A8 .add 3 (e2 14) (vi 1) 3) fun t65 w=>
 I2 [t65] w∧m2 [t65] w<m2 [e2 14] w2)∧
 o pr E w (C4 151 t5 1) fun t68 w=>
 o pr E w (A1 3 t68) fun t69 w=>
 o pr E w (A1 116 t13) fun t70 w=>
 cl pr E w N4 #[a0,t69,t70,(Value.bool false)] fun t71 w=>
 o pr E w (D6 t71 0) fun t72 w=>
 o pr E w (D6 t71 1) fun t73 w=>
 o pr E w (B4 116) fun t15 w=>
 o pr E w (B4 116) fun t16 w=>
 o pr E w (A2 116 t15 t72) fun _ w=>
 o pr E w (A2 116 t16 t73) fun _ w=>
 o pr E w (C4 151 t5 2) fun t75 w=>
 o pr E w (A1 3 t75) fun t76 w=>
 o pr E w (A1 116 t15) fun t77 w=>
 cl pr E w H9 #[a0,t76,t77,(Value.bool false)] fun t78 w=>
 o pr E w (B4 116) fun t17 w=>
 o pr E w (A2 116 t17 t78) fun _ w=>
 o pr E w (A1 116 t6) fun t80 w=>
 o pr E w (A1 116 t17) fun t81 w=>
 cl pr E w L3 #[a0,t80,t81] fun t82 w=>
 o pr E w (B4 116) fun t18 w=>
 o pr E w (A2 116 t18 t82) fun _ w=>
 o pr E w (A1 116 t13) fun t84 w=>
 o pr E w (A1 116 t18) fun t85 w=>
 cl pr E w L3 #[a0,t84,t85] fun t86 w=>
 o pr E w (B4 116) fun t19 w=>
 o pr E w (A2 116 t19 t86) fun _ w=>
 o pr E w (A1 116 t13) fun t87 w=>
 o pr E w (A1 116 t19) fun t88 w=>
 cl pr E w A8G #[t87,t88] fun t89 w=>
 B6 t89 (∃(I4:Yl) (m4:Yn),I4 [(vi 0)] w∧
 ∀(e4:Nat→Value) w4,I4 [e4 21] w4→(fun w=>
 o pr E w (C7 a0) fun t105 w=>
 o pr E w (C4 177 t105 1) fun t106 w=>
 o pr E w (C4 112 t106 2) fun t107 w=>
 o pr E w (A1 3 t107) fun t108 w=>
 o pr E w (E9 .lss 3 (e4 21) t108 3) fun t109 w=>
 B6 t109 (o pr E w (C4 151 t5 1) fun t114 w=>
 o pr E w (A1 3 t114) fun t115 w=>
 o pr E w (A1 116 t13) fun t116 w=>
 cl pr E w N4 #[a0,t115,t116,(Value.bool false)] fun t117 w=>
 o pr E w (D6 t117 0) fun t118 w=>
 o pr E w (D6 t117 1) fun t119 w=>
 o pr E w (B4 116) fun t22 w=>
 o pr E w (B4 116) fun t23 w=>
 o pr E w (A2 116 t22 t118) fun _ w=>
 o pr E w (A2 116 t23 t119) fun _ w=>
 o pr E w (C4 151 t5 2) fun t121 w=>
 o pr E w (A1 3 t121) fun t122 w=>
 o pr E w (A1 116 t22) fun t123 w=>
 cl pr E w H9 #[a0,t122,t123,(Value.bool false)] fun t124 w=>
 o pr E w (B4 116) fun t24 w=>
 o pr E w (A2 116 t24 t124) fun _ w=>
 o pr E w (A1 116 t6) fun t126 w=>
 o pr E w (A1 116 t24) fun t127 w=>
 cl pr E w L3 #[a0,t126,t127] fun t128 w=>
 o pr E w (B4 116) fun t25 w=>
 o pr E w (A2 116 t25 t128) fun _ w=>
 o pr E w (A1 116 t13) fun t130 w=>
 o pr E w (A1 116 t25) fun t131 w=>
 cl pr E w R7 #[a0,t130,t131] fun t132 w=>
 o pr E w (A2 116 t13 t132) fun _ w=>
 o pr E w (A8 .add 3 (e4 21) (vi 1) 3) fun t111 w=>
 I4 [t111] w∧m4 [t111] w<m4 [e4 21] w4)
  (o pr E w (C4 151 t5 8) fun t134 w=>
 o pr E w (A1 3 t134) fun t135 w=>
 o pr E w (A1 116 t13) fun t136 w=>
 cl pr E w N8 #[a0,t135,t136,a3] fun _ w=>
 o pr E w (C4 151 t5 1) fun t141 w=>
 o pr E w (A1 3 t141) fun t142 w=>
 o pr E w (A1 116 t13) fun t143 w=>
 cl pr E w N4 #[a0,t142,t143,a3] fun t145 w=>
 o pr E w (D6 t145 0) fun t146 w=>
 o pr E w (D6 t145 1) fun t147 w=>
 o pr E w (B4 116) fun t26 w=>
 o pr E w (B4 116) fun t27 w=>
 o pr E w (A2 116 t26 t146) fun _ w=>
 o pr E w (A2 116 t27 t147) fun _ w=>
 o pr E w (C4 151 t5 2) fun t149 w=>
 o pr E w (A1 3 t149) fun t150 w=>
 o pr E w (A1 116 t26) fun t151 w=>
 cl pr E w H9 #[a0,t150,t151,a3] fun _ w=>
 o pr E w (A1 116 t9) fun t155 w=>
 o pr E w (A1 116 t27) fun t156 w=>
 cl pr E w L3 #[a0,t155,t156] fun t157 w=>
 o pr E w (A2 116 t8 t157) fun _ w=>
 rs pr w t8 116 fun v0_0=>
 K v0_0 w)) w4)
  (o pr E w (C7 a0) fun t93 w=>
 o pr E w (C4 177 t93 1) fun t94 w=>
 o pr E w (C4 112 t94 1) fun t95 w=>
 o pr E w (A1 3 t95) fun t96 w=>
 o pr E w (E9 .leq 3 (e2 14) t96 3) fun t97 w=>
 B6 t97 (o pr E w (A1 116 t19) fun t98 w=>
 o pr E w (A2 116 t13 t98) fun _ w=>
 j3 [] w)
  (o pr E w (A1 116 t13) fun t100 w=>
 o pr E w (A1 116 t19) fun t101 w=>
 cl pr E w T2 #[a0,t100,t101] fun t102 w=>
 o pr E w (A2 116 t13 t102) fun _ w=>
 j3 [] w))) w2)) w1
def B0y:E0:=[(1,[0,3,5,6,8]),(2,[0,3,5,6,8,9]),(3,[0,3,5,6,8,9,10]),(4,[0,3,5,6,8,9,10]),(5,[0,3,5,6,8,9,10]),(6,[0,3,5,6,8,9,10]),(7,[0,3,5,6,8,9,10,11,12]),(8,[0,3,5,6,8,9,10,11]),(9,[0,3,5,6,8,9]),(10,[0,3,5,6,8,9,13]),(11,[0,3,5,6,8,9,13,14]),(12,[0,3,5,6,8,9,13,14]),(13,[0,3,5,6,8,9,13,14,15]),(14,[0,3,5,6,8,9,13,14,17]),(15,[0,3,5,6,8,9,13,14,18]),(16,[0,3,5,6,8,9,13,14,19]),(17,[0,3,5,6,8,9,13,14,19,20]),(18,[0,3,5,6,8,9,13,14,19]),(19,[0,3,5,6,8,9,13,14,19,97]),(21,[0,3,5,6,8,9,13]),(22,[0,3,5,6,8,9,13,21]),(23,[0,3,5,6,8,9,13,21]),(24,[0,3,5,6,8,9,13,21]),(25,[0,3,5,6,8,9,13,21,22]),(26,[0,3,5,6,8,9,13,21,24]),(27,[0,3,5,6,8,9,13,21,25]),(28,[0,3,5,8,9,13]),(29,[0,3,5,8,9,13]),(30,[0,3,5,8,9,26,27]),(31,[0,8,9,27])]
theorem A7y(a0 a1 a2 a3:Value)(w:World)(R:Ye)
 (h:A4y (fun v w=>R (.returned v) w) (fun c w=>R (.panicked c) w) a0 a1 a2 a3 w):Calls pr A2c #[a0,a1,a2,a3] w R:=
 B8 (A:=B0y) D4 E3 Go.Proofs.Tryz.func107 kr kr kr
  (Eq.mp kr h)
def B6a(K:Yv)(E:B7)(a0 a1:Value)(w:World):Prop:=
 o pr E w (B4 182) fun t4 w=>
 o pr E w (A8 .eql 3 a0 (vi 0) 3) fun t6 w=>
 B6 t6 (o pr E w (D0 182 [(0,a1),(1,a1)]) fun t9 w=>
 o pr E w (A2 182 t4 t9) fun _ w=>
 rs pr w t4 182 fun v0_0=>
 K v0_0 w)
  (o pr E w (D0 182 [(0,(vi 0)),(1,a1)]) fun t11 w=>
 o pr E w (A2 182 t4 t11) fun _ w=>
 rs pr w t4 182 fun v0_1=>
 K v0_1 w)
def C5a:E0:=[(1,[0,1,4]),(2,[1,4,6]),(3,[1,4])]
theorem B8O(a0 a1:Value)(w:World)(R:Ye)
 (h:B6a (fun v w=>R (.returned v) w) (fun c w=>R (.panicked c) w) a0 a1 w):Calls pr A6e #[a0,a1] w R:=
 B8 (A:=C5a) D4 E3 Go.Proofs.Tryz.func143 kr kr kr
  (Eq.mp kr h)
def B3C(K:Yv)(E:B7)(a0 a1:Value)(w:World):Prop:=
 o pr E w (H1 182 a1) fun t3 w=>
 o pr E w (B4 182) fun t4 w=>
 o pr E w (A8 .eql 3 a0 (vi 0) 3) fun t7 w=>
 B6 t7 (o pr E w (C4 182 t3 1) fun t8 w=>
 o pr E w (A1 3 t8) fun t9 w=>
 o pr E w (sUn .neg 3 t9) fun t10 w=>
 o pr E w (C4 182 t3 0) fun t11 w=>
 o pr E w (A1 3 t11) fun t12 w=>
 o pr E w (sUn .neg 3 t12) fun t13 w=>
 cl pr E w A1U #[t10,t13] fun t14 w=>
 o pr E w (A2 182 t4 t14) fun _ w=>
 rs pr w t4 182 fun v0_0=>
 K v0_0 w)
  (o pr E w (C4 182 t3 0) fun t15 w=>
 o pr E w (A1 3 t15) fun t16 w=>
 o pr E w (A8 .eql 3 t16 (vi 0) 3) fun t17 w=>
 B6 t17 (o pr E w (C4 182 t3 1) fun t18 w=>
 o pr E w (A1 3 t18) fun t19 w=>
 o pr E w (sUn .neg 3 t19) fun t20 w=>
 cl pr E w C6O #[t20] fun t21 w=>
 o pr E w (D0 182 [(0,(vi 0)),(1,t21)]) fun t23 w=>
 o pr E w (A2 182 t4 t23) fun _ w=>
 rs pr w t4 182 fun v0_1=>
 K v0_1 w)
  (o pr E w (C4 182 t3 0) fun t24 w=>
 o pr E w (A1 3 t24) fun t25 w=>
 o pr E w (C4 182 t3 1) fun t26 w=>
 o pr E w (A1 3 t26) fun t27 w=>
 o pr E w (sUn .neg 3 t27) fun t28 w=>
 cl pr E w D0U #[t25,t28] fun t29 w=>
 o pr E w (A2 182 t4 t29) fun _ w=>
 rs pr w t4 182 fun v0_2=>
 K v0_2 w))
def C2U:E0:=[(1,[0,3,4]),(2,[3,4,7]),(3,[3,4]),(4,[3,4,17]),(5,[4,5]),(6,[3,4])]
theorem B6M(a0 a1:Value)(w:World)(R:Ye)
 (h:B3C (fun v w=>R (.returned v) w) (fun c w=>R (.panicked c) w) a0 a1 w):Calls pr A6M #[a0,a1] w R:=
 B8 (A:=C2U) D4 E3 Go.Proofs.Tryz.func144 kr kr kr
  (Eq.mp kr h)
def A7w(K:Yv)(E:B7)(a0 a1 a2:Value)(w:World):Prop:=
 o pr E w (H1 182 a0) fun t3 w=>
 o pr E w (A8 .eql 3 a1 (vi 0) 3) fun t8 w=>
 B6 t8 ((fun(k2:Yv)=>
 o pr E w (C4 182 t3 0) fun t9 w=>
 o pr E w (A1 3 t9) fun t10 w=>
 o pr E w (E9 .leq 3 t10 a2 3) fun t12 w=>
 D8 t12 true (o pr E w (C4 182 t3 1) fun t15 w=>
 o pr E w (A1 3 t15) fun t16 w=>
 o pr E w (E9 .leq 3 a2 t16 3) fun t17 w=>
 o pr E w (D1 t12 t17 (Value.bool false)) fun t18 w=>
 k2 t18 w)
  (o pr E w (D1 t12 undef (Value.bool false)) fun t18_1 w=>
 k2 t18_1 w))
 (fun t6 w=>
 K t6 w))
  (o pr E w (C4 182 t3 0) fun t19 w=>
 o pr E w (A1 3 t19) fun t20 w=>
 o pr E w (A8 .eql 3 t20 (vi 0) 3) fun t21 w=>
 B6 t21 (o pr E w (C4 182 t3 1) fun t23 w=>
 o pr E w (A1 3 t23) fun t24 w=>
 o pr E w (E9 .eql 3 a2 t24 3) fun t25 w=>
 K t25 w)
  (o pr E w (C4 182 t3 1) fun t27 w=>
 o pr E w (A1 3 t27) fun t28 w=>
 o pr E w (E9 .sub 3 a2 t28 3) fun t29 w=>
 o pr E w (C4 182 t3 0) fun t30 w=>
 o pr E w (A1 3 t30) fun t31 w=>
 o pr E w (E9 .rem 3 t29 t31 3) fun t32 w=>
 o pr E w (A8 .eql 3 t32 (vi 0) 3) fun t33 w=>
 K t33 w))
def B5B:E0:=[(1,[1,2,3]),(2,[2,3,8]),(3,[2,3]),(4,[2,3,21]),(5,[2,3])]
theorem B1D(a0 a1 a2:Value)(w:World)(R:Ye)
 (h:A7w (fun v w=>R (.returned v) w) (fun c w=>R (.panicked c) w) a0 a1 a2 w):Calls pr A0h #[a0,a1,a2] w R:=
 B8 (A:=B5B) D4 E3 Go.Proofs.Tryz.func145 kr kr kr
  (Eq.mp kr h)
def A8X(K:Yv)(E:B7)(a0 a1 a2:Value)(w:World):Prop:=
 o pr E w (H1 182 a0) fun t3 w=>
 o pr E w (H1 182 a2) fun t5 w=>
 o pr E w (B4 182) fun t6 w=>
 o pr E w (A8 .eql 9 a1 (Value.string (S [43])) 9) fun t13 w=>
 B6 t13 (o pr E w (C4 182 t3 0) fun t14 w=>
 o pr E w (A1 3 t14) fun t15 w=>
 o pr E w (C4 182 t5 0) fun t16 w=>
 o pr E w (A1 3 t16) fun t17 w=>
 o pr E w (E9 .add 3 t15 t17 3) fun t18 w=>
 o pr E w (C4 182 t3 1) fun t19 w=>
 o pr E w (A1 3 t19) fun t20 w=>
 o pr E w (C4 182 t5 1) fun t21 w=>
 o pr E w (A1 3 t21) fun t22 w=>
 o pr E w (E9 .add 3 t20 t22 3) fun t23 w=>
 cl pr E w A1U #[t18,t23] fun t24 w=>
 o pr E w (B4 182) fun t8 w=>
 o pr E w (A2 182 t8 t24) fun _ w=>
 o pr E w (A1 182 t8) fun t25 w=>
 o pr E w (A2 182 t6 t25) fun _ w=>
 rs pr w t6 182 fun v0_0=>
 K (.tuple #[v0_0,(Value.bool true)]) w)
  (o pr E w (A8 .eql 9 a1 (Value.string (S [45])) 9) fun t27 w=>
 B6 t27 (o pr E w (C4 182 t3 0) fun t28 w=>
 o pr E w (A1 3 t28) fun t29 w=>
 o pr E w (C4 182 t5 1) fun t30 w=>
 o pr E w (A1 3 t30) fun t31 w=>
 o pr E w (E9 .sub 3 t29 t31 3) fun t32 w=>
 o pr E w (C4 182 t3 1) fun t33 w=>
 o pr E w (A1 3 t33) fun t34 w=>
 o pr E w (C4 182 t5 0) fun t35 w=>
 o pr E w (A1 3 t35) fun t36 w=>
 o pr E w (E9 .sub 3 t34 t36 3) fun t37 w=>
 cl pr E w A1U #[t32,t37] fun t38 w=>
 o pr E w (B4 182) fun t9 w=>
 o pr E w (A2 182 t9 t38) fun _ w=>
 o pr E w (A1 182 t9) fun t39 w=>
 o pr E w (A2 182 t6 t39) fun _ w=>
 rs pr w t6 182 fun v0_1=>
 K (.tuple #[v0_1,(Value.bool true)]) w)
  (o pr E w (A8 .eql 9 a1 (Value.string (S [42])) 9) fun t41 w=>
 B6 t41 (o pr E w (C4 182 t3 0) fun t42 w=>
 o pr E w (A1 3 t42) fun t43 w=>
 o pr E w (C4 182 t5 0) fun t44 w=>
 o pr E w (A1 3 t44) fun t45 w=>
 o pr E w (E9 .mul 3 t43 t45 3) fun t46 w=>
 o pr E w (C4 182 t3 0) fun t47 w=>
 o pr E w (A1 3 t47) fun t48 w=>
 o pr E w (C4 182 t5 1) fun t49 w=>
 o pr E w (A1 3 t49) fun t50 w=>
 o pr E w (E9 .mul 3 t48 t50 3) fun t51 w=>
 o pr E w (C4 182 t3 1) fun t52 w=>
 o pr E w (A1 3 t52) fun t53 w=>
 o pr E w (C4 182 t5 0) fun t54 w=>
 o pr E w (A1 3 t54) fun t55 w=>
 o pr E w (E9 .mul 3 t53 t55 3) fun t56 w=>
 o pr E w (C4 182 t3 1) fun t57 w=>
 o pr E w (A1 3 t57) fun t58 w=>
 o pr E w (C4 182 t5 1) fun t59 w=>
 o pr E w (A1 3 t59) fun t60 w=>
 o pr E w (E9 .mul 3 t58 t60 3) fun t61 w=>
 o pr E w (F2 22 4 [(0,t46),(1,t51),(2,t56),(3,t61)]) fun t62 w=>
 cl pr E w A6c #[t62] fun t63 w=>
 o pr E w (B4 182) fun t10 w=>
 o pr E w (A2 182 t10 t63) fun _ w=>
 o pr E w (A1 182 t10) fun t64 w=>
 o pr E w (A2 182 t6 t64) fun _ w=>
 rs pr w t6 182 fun v0_2=>
 K (.tuple #[v0_2,(Value.bool true)]) w)
  (o pr E w (A8 .eql 9 a1 (Value.string (S [47])) 9) fun t66 w=>
 B6 t66 (o pr E w (A1 182 t3) fun t67 w=>
 o pr E w (A1 182 t5) fun t68 w=>
 cl pr E w A6d #[t67,t68] fun t69 w=>
 o pr E w (D6 t69 0) fun t70 w=>
 o pr E w (D6 t69 1) fun t71 w=>
 o pr E w (A2 182 t6 t70) fun _ w=>
 rs pr w t6 182 fun v0_3=>
 K (.tuple #[v0_3,t71]) w)
  (o pr E w (A1 182 t3) fun t72 w=>
 o pr E w (A1 182 t5) fun t73 w=>
 cl pr E w B2L #[t72,t73] fun t74 w=>
 o pr E w (D6 t74 0) fun t75 w=>
 o pr E w (D6 t74 1) fun t76 w=>
 o pr E w (A2 182 t6 t75) fun _ w=>
 rs pr w t6 182 fun v0_4=>
 K (.tuple #[v0_4,t76]) w))))
def B7b:E0:=[(1,[1,3,5,6]),(2,[3,5,6,11]),(3,[3,5,6,11,12]),(4,[6,8]),(6,[3,5,6,11,26]),(7,[6,9]),(9,[3,5,6,11,40]),(10,[6,10]),(12,[3,5,6,65]),(13,[3,5,6])]
theorem B2x(a0 a1 a2:Value)(w:World)(R:Ye)
 (h:A8X (fun v w=>R (.returned v) w) (fun c w=>R (.panicked c) w) a0 a1 a2 w):Calls pr A3w #[a0,a1,a2] w R:=
 B8 (A:=B7b) D4 E3 Go.Proofs.Tryz.func146 kr kr kr
  (Eq.mp kr h)
def A3m(K:Yv)(E:B7)(a0 a1 a2 a3 a4 a5:Value)(w:World):Prop:=
 ∃j1:Yl,(∀(e1:Nat→Value) w,j1 [e1 7,e1 8,e1 9,e1 10,e1 12] w→
 o pr E w (A1 116 (e1 7)) fun t68 w=>
 o pr E w (C4 151 (e1 8) 1) fun t69 w=>
 o pr E w (A1 3 t69) fun t70 w=>
 o pr E w (A1 182 (e1 9)) fun t71 w=>
 o pr E w (A1 182 (e1 10)) fun t73 w=>
 cl pr E w Z6 #[a0,t68,t70,t71,a5,t73] fun t74 w=>
 o pr E w (A2 116 (e1 7) t74) fun _ w=>
 cl pr E w A8F #[a5] fun t76 w=>
 o pr E w (A1 116 (e1 7)) fun t78 w=>
 o pr E w (C4 151 (e1 8) 2) fun t79 w=>
 o pr E w (A1 3 t79) fun t80 w=>
 o pr E w (A1 182 (e1 10)) fun t81 w=>
 o pr E w (A1 182 (e1 9)) fun t83 w=>
 cl pr E w Z6 #[a0,t78,t80,t81,t76,t83] fun t84 w=>
 o pr E w (A2 116 (e1 12) t84) fun _ w=>
 rs pr w (e1 12) 116 fun v0_0=>
 K v0_0 w)∧
 o pr E w (H1 116 a1) fun t7 w=>
 o pr E w (H1 151 a2) fun t8 w=>
 o pr E w (H1 182 a3) fun t9 w=>
 o pr E w (H1 182 a4) fun t10 w=>
 o pr E w (B4 116) fun t12 w=>
 o pr E w (C7 a0) fun t19 w=>
 o pr E w (C4 177 t19 1) fun t20 w=>
 o pr E w (C4 112 t20 0) fun t21 w=>
 o pr E w (A1 3 t21) fun t22 w=>
 o pr E w (A8 .eql 3 t22 (vi 0) 3) fun t23 w=>
 B6 t23 (o pr E w (A1 182 t9) fun t24 w=>
 o pr E w (A1 182 t10) fun t26 w=>
 cl pr E w A6N #[t24,a5,t26] fun t27 w=>
 B6 t27 (cl pr E w O6 #[] fun t29 w=>
 o pr E w (A2 116 t12 t29) fun _ w=>
 rs pr w t12 116 fun v0_1=>
 K v0_1 w)
  (j1 [t7,t8,t9,t10,t12] w))
  (o pr E w (C4 182 t9 1) fun t30 w=>
 o pr E w (A1 3 t30) fun t31 w=>
 o pr E w (C4 182 t10 1) fun t33 w=>
 o pr E w (A1 3 t33) fun t34 w=>
 cl pr E w B0s #[t31,a5,t34] fun t35 w=>
 (fun(k6:Yv)=>
 o pr E w (C4 182 t9 0) fun t36 w=>
 o pr E w (A1 3 t36) fun t37 w=>
 o pr E w (A8 .eql 3 t37 (vi 0) 3) fun t38 w=>
 (fun(q1:Yv)=>
 D8 t38 true (o pr E w (C4 182 t10 0) fun t40 w=>
 o pr E w (A1 3 t40) fun t41 w=>
 o pr E w (A8 .eql 3 t41 (vi 0) 3) fun t42 w=>
 q1 t42 w)
  (q1 undef w))
 (fun t42_1 w=>
 o pr E w (D1 t38 t42_1 (Value.bool false)) fun t43 w=>
 D8 t43 true (o pr E w (sUn .not 4 t35) fun t46 w=>
 o pr E w (D1 t43 t46 (Value.bool false)) fun t47_1 w=>
 k6 t47_1 w)
  (o pr E w (D1 t43 undef (Value.bool false)) fun t47_2 w=>
 k6 t47_2 w)))
 (fun t47 w=>
 B6 t47 (cl pr E w O6 #[] fun t48 w=>
 o pr E w (A2 116 t12 t48) fun _ w=>
 rs pr w t12 116 fun v0_2=>
 K v0_2 w)
  ((fun w=>
 (fun(k8:Yv)=>
 oz pr (C7 a0) fun t51=>
 oz pr (C4 177 t51 1) fun t52=>
 oz pr (C4 112 t52 0) fun t53=>
 oa pr w (A1 3 t53) fun t54=>
 oa pr w (A1 182 t9) fun t55=>
 oa pr w (A1 182 t10) fun t56=>
 (cl pr E w A2K #[t54,t55,t56] fun t57 w=>
 oz pr (D6 t57 0) fun t58=>
 oz pr (D6 t57 1) fun t59=>
 o pr E w (B4 182) fun t15 w=>
 o pr E w (A2 182 t15 t58) fun _ w=>
 k8 t59 w)∧
 (o pr E w (B4 182) fun t15_1 w=>
 rk pr w (A1 182 t10) t56∧
 rk pr w (A1 182 t9) t55∧
 rk pr w (A1 3 t53) t54∧
 cl pr E w A2K #[t54,t55,t56] fun t57_1 w=>
 oz pr (D6 t57_1 0) fun t58_1=>
 oz pr (D6 t57_1 1) fun t59_1=>
 o pr E w (A2 182 t15_1 t58_1) fun _ w=>
 k8 t59_1 w))
 (fun t16 w=>
 (fun(k9:Yv)=>
 o pr E w (A8 .eql 9 a5 (Value.string (S [61,61])) 9) fun t61 w=>
 D8 t61 true (o pr E w (sUn .not 4 t16) fun t64 w=>
 o pr E w (D1 t61 t64 (Value.bool false)) fun t65_1 w=>
 k9 t65_1 w)
  (o pr E w (D1 t61 undef (Value.bool false)) fun t65_2 w=>
 k9 t65_2 w))
 (fun t65 w=>
 B6 t65 (cl pr E w O6 #[] fun t66 w=>
 o pr E w (A2 116 t12 t66) fun _ w=>
 rs pr w t12 116 fun v0_3=>
 K v0_3 w)
  (j1 [t7,t8,t9,t10,t12] w)))) (dr w))))
def A8N:E0:=[(1,[0,5,7,8,9,10,12]),(2,[0,5,7,8,9,10,12,23]),(3,[0,5,7,8,9,10,12,13]),(4,[0,5,7,8,9,10,12,28]),(6,[0,5,7,8,9,10,12,14]),(7,[0,5,7,8,9,10,12,47]),(8,[0,5,7,8,9,10,12]),(9,[0,5,7,8,9,10,12,16]),(10,[0,5,7,8,9,10,12,65]),(11,[0,5,7,8,9,10,12]),(12,[0,5,7,8,9,10,12]),(13,[0,7,8,9,10,12,17])]
theorem A6v(a0 a1 a2 a3 a4 a5:Value)(w:World)(R:Ye)
 (h:A3m (fun v w=>R (.returned v) w) (fun c w=>R (.panicked c) w) a0 a1 a2 a3 a4 a5 w):Calls pr Z7 #[a0,a1,a2,a3,a4,a5] w R:=
 B8 (A:=A8N) D4 E3 Go.Proofs.Tryz.func148 kr kr kr
  (Eq.mp kr h)
def A8Y(K:Yv)(E:B7)(a0:Value)(w:World):Prop:=
 o pr E w (A8 .eql 9 a0 (Value.string (S [60])) 9) fun t5 w=>
 B6 t5 (K (Value.string (S [62,61])) w)
  (o pr E w (A8 .eql 9 a0 (Value.string (S [60,61])) 9) fun t7 w=>
 B6 t7 (K (Value.string (S [62])) w)
  (o pr E w (A8 .eql 9 a0 (Value.string (S [61,61])) 9) fun t9 w=>
 B6 t9 (K (Value.string (S [33,61])) w)
  (o pr E w (A8 .eql 9 a0 (Value.string (S [33,61])) 9) fun t11 w=>
 B6 t11 (K (Value.string (S [61,61])) w)
  (o pr E w (A8 .eql 9 a0 (Value.string (S [62,61])) 9) fun t13 w=>
 B6 t13 (K (Value.string (S [60])) w)
  (K (Value.string (S [60,61])) w)))))
def B7c:E0:=[(1,[0]),(2,[3]),(3,[3,4]),(5,[3,6]),(7,[3,8]),(9,[3,10]),(11,[12]),(12,[])]
theorem B2y(a0:Value)(w:World)(R:Ye)
 (h:A8Y (fun v w=>R (.returned v) w) (fun c w=>R (.panicked c) w) a0 w):Calls pr A6g #[a0] w R:=
 B8 (A:=B7c) D4 E3 Go.Proofs.Tryz.func149 kr kr kr
  (Eq.mp kr h)
def B6d(K:Yv)(E:B7)(a0 a1 a2:Value)(w:World):Prop:=
 o pr E w (H1 182 a1) fun t4 w=>
 o pr E w (H1 182 a2) fun t5 w=>
 o pr E w (B4 182) fun t6 w=>
 o pr E w (A8 .eql 3 a0 (vi 0) 3) fun t10 w=>
 B6 t10 (o pr E w (C4 182 t4 0) fun t11 w=>
 o pr E w (A1 3 t11) fun t12 w=>
 o pr E w (C4 182 t4 1) fun t13 w=>
 o pr E w (A1 3 t13) fun t14 w=>
 o pr E w (C4 182 t5 0) fun t15 w=>
 o pr E w (A1 3 t15) fun t16 w=>
 o pr E w (C4 182 t5 1) fun t17 w=>
 o pr E w (A1 3 t17) fun t18 w=>
 o pr E w (F2 22 4 [(0,t12),(1,t14),(2,t16),(3,t18)]) fun t19 w=>
 cl pr E w A6c #[t19] fun t20 w=>
 o pr E w (A2 182 t6 t20) fun _ w=>
 rs pr w t6 182 fun v0_0=>
 K v0_0 w)
  (o pr E w (C4 182 t4 0) fun t21 w=>
 o pr E w (A1 3 t21) fun t22 w=>
 o pr E w (C4 182 t5 0) fun t23 w=>
 o pr E w (A1 3 t23) fun t24 w=>
 cl pr E w C1U #[t22,t24] fun t25 w=>
 o pr E w (C4 182 t4 1) fun t27 w=>
 o pr E w (A1 3 t27) fun t28 w=>
 o pr E w (C4 182 t5 1) fun t29 w=>
 o pr E w (A1 3 t29) fun t30 w=>
 o pr E w (E9 .sub 3 t28 t30 3) fun t31 w=>
 cl pr E w C1U #[t25,t31] fun t32 w=>
 o pr E w (A8 .eql 3 t32 (vi 0) 3) fun t34 w=>
 B6 t34 (o pr E w (A1 182 t4) fun t35 w=>
 o pr E w (A2 182 t6 t35) fun _ w=>
 rs pr w t6 182 fun v0_1=>
 K v0_1 w)
  (o pr E w (C4 182 t4 1) fun t36 w=>
 o pr E w (A1 3 t36) fun t37 w=>
 cl pr E w B3Y #[t37,t32] fun t39 w=>
 o pr E w (D0 182 [(0,t32),(1,t39)]) fun t42 w=>
 o pr E w (A2 182 t6 t42) fun _ w=>
 rs pr w t6 182 fun v0_2=>
 K v0_2 w))
def C5d:E0:=[(1,[0,4,5,6]),(2,[4,5,6,10]),(3,[4,5,6]),(4,[4,5,6,7]),(5,[4,6,7]),(6,[4,6,7,34]),(7,[4,6,7]),(8,[6,7,8])]
theorem B8R(a0 a1 a2:Value)(w:World)(R:Ye)
 (h:B6d (fun v w=>R (.returned v) w) (fun c w=>R (.panicked c) w) a0 a1 a2 w):Calls pr A8H #[a0,a1,a2] w R:=
 B8 (A:=C5d) D4 E3 Go.Proofs.Tryz.func150 kr kr kr
  (Eq.mp kr h)
def B5Y(K:Yv)(E:B7)(a0 a1:Value)(w:World):Prop:=
 o pr E w (H1 116 a0) fun t2 w=>
 o pr E w (H1 116 a1) fun t3 w=>
 (fun(k1:Yv)=>
 o pr E w (C4 116 t2 0) fun t6 w=>
 o pr E w (A1 4 t6) fun t7 w=>
 D8 t7 false (o pr E w (C4 116 t3 0) fun t9 w=>
 o pr E w (A1 4 t9) fun t10 w=>
 o pr E w (D1 t7 (Value.bool true) t10) fun t11_1 w=>
 k1 t11_1 w)
  (o pr E w (D1 t7 (Value.bool true) undef) fun t11_2 w=>
 k1 t11_2 w))
 (fun t11 w=>
 B6 t11 (o pr E w (C4 116 t2 0) fun t12 w=>
 o pr E w (A1 4 t12) fun t13 w=>
 o pr E w (C4 116 t3 0) fun t14 w=>
 o pr E w (A1 4 t14) fun t15 w=>
 o pr E w (E9 .eql 4 t13 t15 4) fun t16 w=>
 K t16 w)
  (∃(I1:Yl) (m1:Yn),I1 [(vi 0)] w∧
 ∀(e1:Nat→Value) w1,I1 [e1 5] w1→(fun w=>
 o pr E w (A8 .lss 3 (e1 5) (vi 8) 3) fun t18 w=>
 B6 t18 ((fun w=>
 oz pr (C4 116 t2 1) fun t21=>
 oa pr w (A1 114 t21) fun t22=>
 oz pr (X0 114 t22 (e1 5)) fun t24=>
 oa pr w (A1 182 t24) fun t25=>
 oz pr (C4 116 t3 1) fun t26=>
 oa pr w (A1 114 t26) fun t27=>
 oz pr (X0 114 t27 (e1 5)) fun t29=>
 oa pr w (A1 182 t29) fun t30=>
 oz pr (E9 .neq 182 t25 t30 182) fun t31=>
 B6 t31 (K (Value.bool false) w)
  (o pr E w (A8 .add 3 (e1 5) (vi 1) 3) fun t20 w=>
 I1 [t20] w∧m1 [t20] w<m1 [e1 5] w1)) (dr w))
  (K (Value.bool true) w)) w1))
def C4Y:E0:=[(1,[2,3]),(2,[2,3,11]),(3,[2,3]),(4,[2,3,5]),(5,[2,3,5]),(6,[2,3,5]),(7,[2,3,5,31]),(8,[])]
theorem B8M(a0 a1:Value)(w:World)(R:Ye)
 (h:B5Y (fun v w=>R (.returned v) w) (fun c w=>R (.panicked c) w) a0 a1 w):Calls pr A8G #[a0,a1] w R:=
 B8 (A:=C4Y) D4 E3 Go.Proofs.Tryz.func151 kr kr kr
  (Eq.mp kr h)
def A2P(K:Yv)(E:B7)(a0 a1 a2:Value)(w:World):Prop:=
 o pr E w (H1 116 a1) fun t4 w=>
 o pr E w (H1 116 a2) fun t5 w=>
 o pr E w (B4 116) fun t6 w=>
 (fun(k1:Yv)=>
 o pr E w (C4 116 t4 0) fun t10 w=>
 o pr E w (A1 4 t10) fun t11 w=>
 D8 t11 false (o pr E w (C7 a0) fun t14 w=>
 o pr E w (C4 177 t14 1) fun t15 w=>
 o pr E w (C4 112 t15 0) fun t16 w=>
 o pr E w (A1 3 t16) fun t17 w=>
 o pr E w (A8 .neq 3 t17 (vi 0) 3) fun t18 w=>
 o pr E w (D1 t11 (Value.bool true) t18) fun t19_1 w=>
 k1 t19_1 w)
  (o pr E w (D1 t11 (Value.bool true) undef) fun t19_2 w=>
 k1 t19_2 w))
 (fun t19 w=>
 B6 t19 (o pr E w (A1 116 t5) fun t20 w=>
 o pr E w (A2 116 t6 t20) fun _ w=>
 rs pr w t6 116 fun v0_0=>
 K v0_0 w)
  (o pr E w (A1 116 t5) fun t21 w=>
 o pr E w (B4 116) fun t7 w=>
 o pr E w (A2 116 t7 t21) fun _ w=>
 ∃(I1:Yl) (m1:Yn),I1 [(vi 0)] w∧
 ∀(e1:Nat→Value) w1,I1 [e1 8] w1→(fun w=>
 ∃j2:Yl,(∀(e2:Nat→Value) w,j2 [] w→
 o pr E w (A8 .add 3 (e1 8) (vi 1) 3) fun t25 w=>
 I1 [t25] w∧m1 [t25] w<m1 [e1 8] w1)∧
 o pr E w (A8 .lss 3 (e1 8) (vi 8) 3) fun t23 w=>
 B6 t23 (∃j3:Yl,(∀(e3:Nat→Value) w,j3 [e3 9] w→
 ∃j4:Yl,(∀(e4:Nat→Value) w,j4 [] w→
 o pr E w (A1 116 t7) fun t67 w=>
 o pr E w (A1 182 (e3 9)) fun t69 w=>
 cl pr E w R5 #[t67,(e1 8),t69] fun t70 w=>
 o pr E w (A2 116 t7 t70) fun _ w=>
 j2 [] w)∧
 (fun w=>
 oz pr (C4 116 t5 1) fun t49=>
 oa pr w (A1 114 t49) fun t50=>
 oz pr (X0 114 t50 (e1 8)) fun t52=>
 oz pr (C4 182 t52 1) fun t53=>
 oa pr w (A1 3 t53) fun t54=>
 oz pr (C4 182 (e3 9) 1) fun t55=>
 oa pr w (A1 3 t55) fun t56=>
 oz pr (E9 .gtr 3 t54 t56 3) fun t57=>
 B6 t57 (o pr E w (C4 116 t5 1) fun t59 w=>
 o pr E w (A1 114 t59) fun t60 w=>
 o pr E w (X0 114 t60 (e1 8)) fun t62 w=>
 o pr E w (C4 182 t62 1) fun t63 w=>
 o pr E w (A1 3 t63) fun t64 w=>
 cl pr E w A0H #[a0,t64,(Value.bool true)] fun t65 w=>
 o pr E w (C4 182 (e3 9) 1) fun t66 w=>
 o pr E w (A2 3 t66 t65) fun _ w=>
 j4 [] w)
  (j4 [] w)) (dr w))∧
 o pr E w (C4 116 t4 1) fun t26 w=>
 o pr E w (A1 114 t26) fun t27 w=>
 o pr E w (X0 114 t27 (e1 8)) fun t29 w=>
 o pr E w (A1 182 t29) fun t30 w=>
 o pr E w (B4 182) fun t9 w=>
 o pr E w (A2 182 t9 t30) fun _ w=>
 (fun w=>
 oz pr (C4 116 t5 1) fun t31=>
 oa pr w (A1 114 t31) fun t32=>
 oz pr (X0 114 t32 (e1 8)) fun t34=>
 oz pr (C4 182 t34 0) fun t35=>
 oa pr w (A1 3 t35) fun t36=>
 oz pr (C4 182 t9 0) fun t37=>
 oa pr w (A1 3 t37) fun t38=>
 oz pr (E9 .lss 3 t36 t38 3) fun t39=>
 B6 t39 (o pr E w (C4 116 t5 1) fun t41 w=>
 o pr E w (A1 114 t41) fun t42 w=>
 o pr E w (X0 114 t42 (e1 8)) fun t44 w=>
 o pr E w (C4 182 t44 0) fun t45 w=>
 o pr E w (A1 3 t45) fun t46 w=>
 cl pr E w A0H #[a0,t46,(Value.bool false)] fun t47 w=>
 o pr E w (C4 182 t9 0) fun t48 w=>
 o pr E w (A2 3 t48 t47) fun _ w=>
 j3 [t9] w)
  (j3 [t9] w)) (dr w))
  (o pr E w (A1 116 t7) fun t71 w=>
 o pr E w (A2 116 t6 t71) fun _ w=>
 rs pr w t6 116 fun v0_1=>
 K v0_1 w)) w1))
def A7S:E0:=[(1,[0,4,5,6]),(2,[0,4,5,6,19]),(3,[0,4,5,6]),(4,[0,4,5,6,7]),(5,[0,4,5,6,7,8]),(6,[0,4,5,6,7,8]),(7,[0,4,5,6,7,8]),(8,[0,4,5,6,7,8,9]),(9,[0,4,5,6,7,8,9,39]),(10,[0,4,5,6,7,8,9]),(11,[0,4,5,6,7,8,9,57]),(12,[0,4,5,6,7,8,9]),(13,[6,7])]
theorem A5S(a0 a1 a2:Value)(w:World)(R:Ye)
 (h:A2P (fun v w=>R (.returned v) w) (fun c w=>R (.panicked c) w) a0 a1 a2 w):Calls pr T2 #[a0,a1,a2] w R:=
 B8 (A:=A7S) D4 E3 Go.Proofs.Tryz.func152 kr kr kr
  (Eq.mp kr h)
def A2l(K:Yv)(E:B7)(a0 a1 a2:Value)(w:World):Prop:=
 o pr E w (H1 116 a1) fun t4 w=>
 o pr E w (H1 116 a2) fun t5 w=>
 o pr E w (B4 116) fun t6 w=>
 (fun(k1:Yv)=>
 o pr E w (C4 116 t4 0) fun t10 w=>
 o pr E w (A1 4 t10) fun t11 w=>
 (fun(q1:Yv)=>
 D8 t11 false (o pr E w (C4 116 t5 0) fun t13 w=>
 o pr E w (A1 4 t13) fun t14 w=>
 q1 t14 w)
  (q1 undef w))
 (fun t14_1 w=>
 o pr E w (D1 t11 (Value.bool true) t14_1) fun t15 w=>
 D8 t15 false (o pr E w (C7 a0) fun t18 w=>
 o pr E w (C4 177 t18 1) fun t19 w=>
 o pr E w (C4 112 t19 0) fun t20 w=>
 o pr E w (A1 3 t20) fun t21 w=>
 o pr E w (A8 .neq 3 t21 (vi 0) 3) fun t22 w=>
 o pr E w (D1 t15 (Value.bool true) t22) fun t23_1 w=>
 k1 t23_1 w)
  (o pr E w (D1 t15 (Value.bool true) undef) fun t23_2 w=>
 k1 t23_2 w)))
 (fun t23 w=>
 B6 t23 (o pr E w (A1 116 t4) fun t24 w=>
 o pr E w (A2 116 t6 t24) fun _ w=>
 rs pr w t6 116 fun v0_0=>
 K v0_0 w)
  (o pr E w (A1 116 t4) fun t25 w=>
 o pr E w (B4 116) fun t7 w=>
 o pr E w (A2 116 t7 t25) fun _ w=>
 ∃(I1:Yl) (m1:Yn),I1 [(vi 0)] w∧
 ∀(e1:Nat→Value) w1,I1 [e1 8] w1→(fun w=>
 ∃j2:Yl,(∀(e2:Nat→Value) w,j2 [] w→
 o pr E w (A8 .add 3 (e1 8) (vi 1) 3) fun t29 w=>
 I1 [t29] w∧m1 [t29] w<m1 [e1 8] w1)∧
 o pr E w (A8 .lss 3 (e1 8) (vi 8) 3) fun t27 w=>
 B6 t27 (∃j3:Yl,(∀(e3:Nat→Value) w,j3 [e3 9] w→
 ∃j4:Yl,(∀(e4:Nat→Value) w,j4 [] w→
 o pr E w (A1 116 t7) fun t55 w=>
 o pr E w (A1 182 (e3 9)) fun t57 w=>
 cl pr E w R5 #[t55,(e1 8),t57] fun t58 w=>
 o pr E w (A2 116 t7 t58) fun _ w=>
 j2 [] w)∧
 o pr E w (C4 182 (e3 9) 1) fun t45 w=>
 o pr E w (A1 3 t45) fun t46 w=>
 o pr E w (A8 .eql 3 t46 (vi 32767) 3) fun t47 w=>
 B6 t47 (o pr E w (C4 116 t5 1) fun t48 w=>
 o pr E w (A1 114 t48) fun t49 w=>
 o pr E w (X0 114 t49 (e1 8)) fun t51 w=>
 o pr E w (C4 182 t51 1) fun t52 w=>
 o pr E w (A1 3 t52) fun t53 w=>
 o pr E w (C4 182 (e3 9) 1) fun t54 w=>
 o pr E w (A2 3 t54 t53) fun _ w=>
 j4 [] w)
  (j4 [] w))∧
 o pr E w (C4 116 t4 1) fun t30 w=>
 o pr E w (A1 114 t30) fun t31 w=>
 o pr E w (X0 114 t31 (e1 8)) fun t33 w=>
 o pr E w (A1 182 t33) fun t34 w=>
 o pr E w (B4 182) fun t9 w=>
 o pr E w (A2 182 t9 t34) fun _ w=>
 o pr E w (C4 182 t9 0) fun t35 w=>
 o pr E w (A1 3 t35) fun t36 w=>
 o pr E w (A8 .eql 3 t36 (Value.int IntKind.i64 (-32768)) 3) fun t37 w=>
 B6 t37 (o pr E w (C4 116 t5 1) fun t38 w=>
 o pr E w (A1 114 t38) fun t39 w=>
 o pr E w (X0 114 t39 (e1 8)) fun t41 w=>
 o pr E w (C4 182 t41 0) fun t42 w=>
 o pr E w (A1 3 t42) fun t43 w=>
 o pr E w (C4 182 t9 0) fun t44 w=>
 o pr E w (A2 3 t44 t43) fun _ w=>
 j3 [t9] w)
  (j3 [t9] w))
  (o pr E w (A1 116 t7) fun t59 w=>
 o pr E w (A2 116 t6 t59) fun _ w=>
 rs pr w t6 116 fun v0_1=>
 K v0_1 w)) w1))
def A7g:E0:=[(1,[0,4,5,6]),(2,[4,5,6,23]),(3,[4,5,6]),(4,[4,5,6,7]),(5,[4,5,6,7,8]),(6,[4,5,6,7,8]),(7,[4,5,6,7,8]),(8,[4,5,6,7,8,9]),(9,[4,5,6,7,8,9,37]),(10,[4,5,6,7,8,9]),(11,[4,5,6,7,8,9,47]),(12,[4,5,6,7,8,9]),(13,[6,7])]
theorem A5m(a0 a1 a2:Value)(w:World)(R:Ye)
 (h:A2l (fun v w=>R (.returned v) w) (fun c w=>R (.panicked c) w) a0 a1 a2 w):Calls pr R7 #[a0,a1,a2] w R:=
 B8 (A:=A7g) D4 E3 Go.Proofs.Tryz.func153 kr kr kr
  (Eq.mp kr h)
def B1V(K:Yv)(E:B7)(a0 a1:Value)(w:World):Prop:=
 o pr E w (B4 182) fun t4 w=>
 (fun(k1:Yv)=>
 o pr E w (A8 .lss 3 a0 (Value.int IntKind.i64 (-32768)) 3) fun t6 w=>
 D8 t6 false (o pr E w (A8 .gtr 3 a1 (vi 32767) 3) fun t9 w=>
 o pr E w (D1 t6 (Value.bool true) t9) fun t10_1 w=>
 k1 t10_1 w)
  (o pr E w (D1 t6 (Value.bool true) undef) fun t10_2 w=>
 k1 t10_2 w))
 (fun t10 w=>
 B6 t10 (o pr E w (D0 182 [(0,(Value.int IntKind.i64 (-32768))),(1,(vi 32767))]) fun t11 w=>
 o pr E w (A2 182 t4 t11) fun _ w=>
 rs pr w t4 182 fun v0_0=>
 K v0_0 w)
  (o pr E w (D0 182 [(0,a0),(1,a1)]) fun t14 w=>
 o pr E w (A2 182 t4 t14) fun _ w=>
 rs pr w t4 182 fun v0_1=>
 K v0_1 w))
def C0O:E0:=[(1,[0,1,4]),(2,[0,1,4,10]),(3,[0,1,4])]
theorem B4W(a0 a1:Value)(w:World)(R:Ye)
 (h:B1V (fun v w=>R (.returned v) w) (fun c w=>R (.panicked c) w) a0 a1 w):Calls pr A1U #[a0,a1] w R:=
 B8 (A:=C0O) D4 E3 Go.Proofs.Tryz.func172 kr kr kr
  (Eq.mp kr h)
def B5W(K:Yv)(E:B7)(a0:Value)(w:World):Prop:=
 o pr E w (B4 182) fun t2 w=>
 o pr E w (X0 22 a0 (vi 0)) fun t7 w=>
 o pr E w (A1 3 t7) fun t8 w=>
 o pr E w (X0 22 a0 (vi 0)) fun t10 w=>
 o pr E w (A1 3 t10) fun t11 w=>
 ∃(I1:Yl) (m1:Yn),I1 [t8,t11,(vi 1)] w∧
 ∀(e1:Nat→Value) w1,I1 [e1 3,e1 4,e1 5] w1→(fun w=>
 ∃j2:Yl,(∀(e2:Nat→Value) w,j2 [e2 3,e2 4] w→
 o pr E w (A8 .add 3 (e1 5) (vi 1) 3) fun t17 w=>
 I1 [(e2 3),(e2 4),t17] w∧m1 [(e2 3),(e2 4),t17] w<m1 [e1 3,e1 4,e1 5] w1)∧
 o pr E w (sB .len [22] 3 [a0]) fun t14 w=>
 o pr E w (E9 .lss 3 (e1 5) t14 3) fun t15 w=>
 B6 t15 (∃j3:Yl,(∀(e3:Nat→Value) w,j3 [e3 3] w→
 o pr E w (X0 22 a0 (e1 5)) fun t30 w=>
 o pr E w (A1 3 t30) fun t31 w=>
 o pr E w (E9 .gtr 3 t31 (e1 4) 3) fun t33 w=>
 B6 t33 (o pr E w (X0 22 a0 (e1 5)) fun t36 w=>
 o pr E w (A1 3 t36) fun t37 w=>
 j2 [(e3 3),t37] w)
  (j2 [(e3 3),(e1 4)] w))∧
 o pr E w (X0 22 a0 (e1 5)) fun t20 w=>
 o pr E w (A1 3 t20) fun t21 w=>
 o pr E w (E9 .lss 3 t21 (e1 3) 3) fun t23 w=>
 B6 t23 (o pr E w (X0 22 a0 (e1 5)) fun t26 w=>
 o pr E w (A1 3 t26) fun t27 w=>
 j3 [t27] w)
  (j3 [(e1 3)] w))
  (cl pr E w A1U #[(e1 3),(e1 4)] fun t40 w=>
 o pr E w (A2 182 t2 t40) fun _ w=>
 rs pr w t2 182 fun v0_0=>
 K v0_0 w)) w1
def C4W:E0:=[(1,[0,2]),(2,[0,2,3]),(3,[0,2,3,4]),(4,[0,2,3,4,5]),(5,[0,2,3,4,5]),(6,[0,2,3,4,5]),(7,[0,2,3,4,5,23]),(8,[0,2,3,4,5]),(9,[0,2,3,4,5,33]),(10,[2,3,4])]
theorem B8K(a0:Value)(w:World)(R:Ye)
 (h:B5W (fun v w=>R (.returned v) w) (fun c w=>R (.panicked c) w) a0 w):Calls pr A6c #[a0] w R:=
 B8 (A:=C4W) D4 E3 Go.Proofs.Tryz.func174 kr kr kr
  (Eq.mp kr h)
def A8V(K:Yv)(E:B7)(a0 a1:Value)(w:World):Prop:=
 o pr E w (H1 182 a0) fun t2 w=>
 o pr E w (H1 182 a1) fun t3 w=>
 o pr E w (B4 182) fun t4 w=>
 ∃j1:Yl,(∀(e1:Nat→Value) w,j1 [e1 6] w→
 ∃j2:Yl,(∀(e2:Nat→Value) w,j2 [e2 6] w→
 ∃(I3:Yl) (m3:Yn),I3 [(Value.slice none 0 0),(vi 0)] w∧
 ∀(e3:Nat→Value) w3,I3 [e3 9,e3 10] w3→(fun w=>
 o pr E w (sB .len [22] 3 [(e2 6)]) fun t40 w=>
 o pr E w (E9 .lss 3 (e3 10) t40 3) fun t41 w=>
 B6 t41 ((fun w=>
 oz pr (C4 182 t2 0) fun t45=>
 oa pr w (A1 3 t45) fun t46=>
 oz pr (X0 22 (e2 6) (e3 10)) fun t49=>
 oa pr w (A1 3 t49) fun t50=>
 oz pr (E9 .quo 3 t46 t50 3) fun t51=>
 oz pr (C4 182 t2 1) fun t52=>
 oa pr w (A1 3 t52) fun t53=>
 oz pr (X0 22 (e2 6) (e3 10)) fun t56=>
 oa pr w (A1 3 t56) fun t57=>
 oz pr (E9 .quo 3 t53 t57 3) fun t58=>
 o pr E w (F2 22 2 [(0,t51),(1,t58)]) fun t59 w=>
 o pr E w (sB .append [22,22] 22 [(e3 9),t59]) fun t60 w=>
 o pr E w (A8 .add 3 (e3 10) (vi 1) 3) fun t43 w=>
 I3 [t60,t43] w∧m3 [t60,t43] w<m3 [e3 9,e3 10] w3) (dr w))
  (o pr E w (sB .len [22] 3 [(e3 9)]) fun t62 w=>
 o pr E w (A8 .eql 3 t62 (vi 0) 3) fun t63 w=>
 B6 t63 (o pr E w (D0 182 []) fun t64 w=>
 o pr E w (A2 182 t4 t64) fun _ w=>
 rs pr w t4 182 fun v0_0=>
 K (.tuple #[v0_0,(Value.bool false)]) w)
  (cl pr E w A6c #[(e3 9)] fun t66 w=>
 o pr E w (B4 182) fun t11 w=>
 o pr E w (A2 182 t11 t66) fun _ w=>
 o pr E w (A1 182 t11) fun t67 w=>
 o pr E w (A2 182 t4 t67) fun _ w=>
 rs pr w t4 182 fun v0_1=>
 K (.tuple #[v0_1,(Value.bool true)]) w))) w3)∧
 o pr E w (C4 182 t3 1) fun t25 w=>
 o pr E w (A1 3 t25) fun t26 w=>
 o pr E w (A8 .gtr 3 t26 (vi 0) 3) fun t27 w=>
 B6 t27 (∃j4:Yl,(∀(e4:Nat→Value) w,j4 [e4 8] w→
 o pr E w (C4 182 t3 1) fun t34 w=>
 o pr E w (A1 3 t34) fun t35 w=>
 o pr E w (F2 22 2 [(0,(e4 8)),(1,t35)]) fun t36 w=>
 o pr E w (sB .append [22,22] 22 [(e1 6),t36]) fun t37 w=>
 j2 [t37] w)∧
 o pr E w (C4 182 t3 0) fun t28 w=>
 o pr E w (A1 3 t28) fun t29 w=>
 o pr E w (A8 .lss 3 t29 (vi 1) 3) fun t31 w=>
 B6 t31 (j4 [(vi 1)] w)
  (j4 [t29] w))
  (j2 [(e1 6)] w))∧
 o pr E w (C4 182 t3 0) fun t12 w=>
 o pr E w (A1 3 t12) fun t13 w=>
 o pr E w (A8 .lss 3 t13 (vi 0) 3) fun t14 w=>
 B6 t14 (∃j5:Yl,(∀(e5:Nat→Value) w,j5 [e5 7] w→
 o pr E w (C4 182 t3 0) fun t20 w=>
 o pr E w (A1 3 t20) fun t21 w=>
 o pr E w (F2 22 2 [(0,t21),(1,(e5 7))]) fun t23 w=>
 o pr E w (sB .append [22,22] 22 [(Value.slice none 0 0),t23]) fun t24 w=>
 j1 [t24] w)∧
 o pr E w (C4 182 t3 1) fun t15 w=>
 o pr E w (A1 3 t15) fun t16 w=>
 o pr E w (A8 .gtr 3 t16 (Value.int IntKind.i64 (-1)) 3) fun t18 w=>
 B6 t18 (j5 [(Value.int IntKind.i64 (-1))] w)
  (j5 [t16] w))
  (j1 [(Value.slice none 0 0)] w)
def B6Z:E0:=[(1,[2,3,4]),(2,[2,3,4,6]),(3,[2,3,4,6,14]),(4,[2,3,4,6,7]),(5,[2,3,4,6,7,18]),(6,[2,3,4,6,7]),(7,[2,3,4,6]),(8,[2,3,4,6,27]),(9,[2,3,4,6,8]),(10,[2,3,4,6,8,31]),(11,[2,3,4,6,8]),(12,[2,4,6]),(13,[2,4,6,9]),(14,[2,4,6,9,10]),(15,[2,4,6,9,10]),(16,[2,4,6,9,10]),(17,[4,9]),(18,[4,9,63]),(19,[4,9]),(20,[4,11])]
theorem B2v(a0 a1:Value)(w:World)(R:Ye)
 (h:A8V (fun v w=>R (.returned v) w) (fun c w=>R (.panicked c) w) a0 a1 w):Calls pr A6d #[a0,a1] w R:=
 B8 (A:=B6Z) D4 E3 Go.Proofs.Tryz.func175 kr kr kr
  (Eq.mp kr h)
def B5Z(K:Yv)(E:B7)(a0 a1:Value)(w:World):Prop:=
 o pr E w (H1 182 a0) fun t2 w=>
 o pr E w (H1 182 a1) fun t3 w=>
 o pr E w (B4 182) fun t4 w=>
 (fun(k1:Yv)=>
 o pr E w (C4 182 t3 0) fun t8 w=>
 o pr E w (A1 3 t8) fun t9 w=>
 o pr E w (A8 .eql 3 t9 (vi 0) 3) fun t10 w=>
 D8 t10 true (o pr E w (C4 182 t3 1) fun t12 w=>
 o pr E w (A1 3 t12) fun t13 w=>
 o pr E w (A8 .eql 3 t13 (vi 0) 3) fun t14 w=>
 o pr E w (D1 t10 t14 (Value.bool false)) fun t15_1 w=>
 k1 t15_1 w)
  (o pr E w (D1 t10 undef (Value.bool false)) fun t15_2 w=>
 k1 t15_2 w))
 (fun t15 w=>
 B6 t15 (o pr E w (D0 182 []) fun t16 w=>
 o pr E w (A2 182 t4 t16) fun _ w=>
 rs pr w t4 182 fun v0_0=>
 K (.tuple #[v0_0,(Value.bool false)]) w)
  (∃j1:Yl,(∀(e1:Nat→Value) w,j1 [e1 6] w→
 o pr E w (A8 .sub 3 (e1 6) (vi 1) 3) fun t29 w=>
 ∃j2:Yl,(∀(e2:Nat→Value) w,j2 [e2 7] w→
 ∃j3:Yl,(∀(e3:Nat→Value) w,j3 [] w→
 o pr E w (A1 182 (e2 7)) fun t57 w=>
 o pr E w (A2 182 t4 t57) fun _ w=>
 rs pr w t4 182 fun v0_1=>
 K (.tuple #[v0_1,(Value.bool true)]) w)∧
 o pr E w (C4 182 t2 1) fun t45 w=>
 o pr E w (A1 3 t45) fun t46 w=>
 o pr E w (A8 .gtr 3 t46 (vi 0) 3) fun t47 w=>
 B6 t47 (o pr E w (C4 182 t2 1) fun t48 w=>
 o pr E w (A1 3 t48) fun t49 w=>
 o pr E w (C4 182 (e2 7) 1) fun t50 w=>
 o pr E w (A2 3 t50 t49) fun _ w=>
 o pr E w (C4 182 (e2 7) 1) fun t52 w=>
 o pr E w (A1 3 t52) fun t53 w=>
 o pr E w (E9 .lss 3 t29 t53 3) fun t54 w=>
 B6 t54 (o pr E w (C4 182 (e2 7) 1) fun t56 w=>
 o pr E w (A2 3 t56 t29) fun _ w=>
 j3 [] w)
  (j3 [] w))
  (j3 [] w))∧
 o pr E w (D0 182 [(0,(vi 0)),(1,(vi 0))]) fun t30 w=>
 o pr E w (B4 182) fun t7 w=>
 o pr E w (A2 182 t7 t30) fun _ w=>
 o pr E w (C4 182 t2 0) fun t31 w=>
 o pr E w (A1 3 t31) fun t32 w=>
 o pr E w (A8 .lss 3 t32 (vi 0) 3) fun t33 w=>
 B6 t33 (o pr E w (C4 182 t2 0) fun t34 w=>
 o pr E w (A1 3 t34) fun t35 w=>
 o pr E w (C4 182 t7 0) fun t36 w=>
 o pr E w (A2 3 t36 t35) fun _ w=>
 o pr E w (sUn .neg 3 t29) fun t38 w=>
 o pr E w (C4 182 t7 0) fun t39 w=>
 o pr E w (A1 3 t39) fun t40 w=>
 o pr E w (E9 .gtr 3 t38 t40 3) fun t41 w=>
 B6 t41 (o pr E w (sUn .neg 3 t29) fun t43 w=>
 o pr E w (C4 182 t7 0) fun t44 w=>
 o pr E w (A2 3 t44 t43) fun _ w=>
 j2 [t7] w)
  (j2 [t7] w))
  (j2 [t7] w))∧
 o pr E w (C4 182 t3 0) fun t17 w=>
 o pr E w (A1 3 t17) fun t18 w=>
 cl pr E w A7O #[t18] fun t19 w=>
 o pr E w (C4 182 t3 1) fun t20 w=>
 o pr E w (A1 3 t20) fun t21 w=>
 cl pr E w A7O #[t21] fun t22 w=>
 o pr E w (E9 .gtr 3 t22 t19 3) fun t24 w=>
 B6 t24 (o pr E w (C4 182 t3 1) fun t25 w=>
 o pr E w (A1 3 t25) fun t26 w=>
 cl pr E w A7O #[t26] fun t27 w=>
 j1 [t27] w)
  (j1 [t19] w)))
def C4Z:E0:=[(1,[2,3,4]),(2,[2,3,4,15]),(3,[2,3,4]),(4,[2,3,4,6]),(5,[2,3,4,6,24]),(6,[2,4,6]),(7,[2,4,6]),(8,[2,4,6,7]),(9,[2,4,6,7,33]),(10,[2,4,6,7]),(11,[2,4,6,7,41]),(12,[2,4,6,7]),(13,[2,4,6,7,47]),(14,[4,6,7]),(15,[4,6,7,54]),(16,[4,7])]
theorem B8N(a0 a1:Value)(w:World)(R:Ye)
 (h:B5Z (fun v w=>R (.returned v) w) (fun c w=>R (.panicked c) w) a0 a1 w):Calls pr B2L #[a0,a1] w R:=
 B8 (A:=C4Z) D4 E3 Go.Proofs.Tryz.func176 kr kr kr
  (Eq.mp kr h)
def B3F(K:Yv)(E:B7)(a0 a1 a2:Value)(w:World):Prop:=
 o pr E w (H1 182 a0) fun t3 w=>
 o pr E w (H1 182 a2) fun t5 w=>
 o pr E w (A8 .eql 9 a1 (Value.string (S [60])) 9) fun t9 w=>
 B6 t9 (o pr E w (C4 182 t3 0) fun t10 w=>
 o pr E w (A1 3 t10) fun t11 w=>
 o pr E w (C4 182 t5 1) fun t12 w=>
 o pr E w (A1 3 t12) fun t13 w=>
 o pr E w (E9 .geq 3 t11 t13 3) fun t14 w=>
 K t14 w)
  (o pr E w (A8 .eql 9 a1 (Value.string (S [60,61])) 9) fun t16 w=>
 B6 t16 (o pr E w (C4 182 t3 0) fun t17 w=>
 o pr E w (A1 3 t17) fun t18 w=>
 o pr E w (C4 182 t5 1) fun t19 w=>
 o pr E w (A1 3 t19) fun t20 w=>
 o pr E w (E9 .gtr 3 t18 t20 3) fun t21 w=>
 K t21 w)
  (o pr E w (A8 .eql 9 a1 (Value.string (S [62])) 9) fun t23 w=>
 B6 t23 (o pr E w (C4 182 t5 0) fun t24 w=>
 o pr E w (A1 3 t24) fun t25 w=>
 o pr E w (C4 182 t3 1) fun t26 w=>
 o pr E w (A1 3 t26) fun t27 w=>
 o pr E w (E9 .geq 3 t25 t27 3) fun t28 w=>
 K t28 w)
  (o pr E w (A8 .eql 9 a1 (Value.string (S [62,61])) 9) fun t30 w=>
 B6 t30 (o pr E w (C4 182 t5 0) fun t31 w=>
 o pr E w (A1 3 t31) fun t32 w=>
 o pr E w (C4 182 t3 1) fun t33 w=>
 o pr E w (A1 3 t33) fun t34 w=>
 o pr E w (E9 .gtr 3 t32 t34 3) fun t35 w=>
 K t35 w)
  (o pr E w (A8 .eql 9 a1 (Value.string (S [33,61])) 9) fun t37 w=>
 B6 t37 ((fun(k11:Yv)=>
 o pr E w (C4 182 t3 0) fun t38 w=>
 o pr E w (A1 3 t38) fun t39 w=>
 o pr E w (C4 182 t3 1) fun t40 w=>
 o pr E w (A1 3 t40) fun t41 w=>
 o pr E w (E9 .eql 3 t39 t41 3) fun t42 w=>
 (fun(q1:Yv)=>
 D8 t42 true (o pr E w (C4 182 t5 0) fun t44 w=>
 o pr E w (A1 3 t44) fun t45 w=>
 o pr E w (C4 182 t5 1) fun t46 w=>
 o pr E w (A1 3 t46) fun t47 w=>
 o pr E w (E9 .eql 3 t45 t47 3) fun t48 w=>
 q1 t48 w)
  (q1 undef w))
 (fun t48_1 w=>
 o pr E w (D1 t42 t48_1 (Value.bool false)) fun t49 w=>
 D8 t49 true (o pr E w (C4 182 t3 0) fun t51 w=>
 o pr E w (A1 3 t51) fun t52 w=>
 o pr E w (C4 182 t5 0) fun t53 w=>
 o pr E w (A1 3 t53) fun t54 w=>
 o pr E w (E9 .eql 3 t52 t54 3) fun t55 w=>
 o pr E w (D1 t49 t55 (Value.bool false)) fun t56 w=>
 k11 t56 w)
  (o pr E w (D1 t49 undef (Value.bool false)) fun t56_1 w=>
 k11 t56_1 w)))
 (fun t6 w=>
 K t6 w))
  ((fun(k12:Yv)=>
 o pr E w (C4 182 t3 0) fun t57 w=>
 o pr E w (A1 3 t57) fun t58 w=>
 o pr E w (C4 182 t5 1) fun t59 w=>
 o pr E w (A1 3 t59) fun t60 w=>
 o pr E w (E9 .gtr 3 t58 t60 3) fun t61 w=>
 D8 t61 false (o pr E w (C4 182 t5 0) fun t63 w=>
 o pr E w (A1 3 t63) fun t64 w=>
 o pr E w (C4 182 t3 1) fun t65 w=>
 o pr E w (A1 3 t65) fun t66 w=>
 o pr E w (E9 .gtr 3 t64 t66 3) fun t67 w=>
 o pr E w (D1 t61 (Value.bool true) t67) fun t68 w=>
 k12 t68 w)
  (o pr E w (D1 t61 (Value.bool true) undef) fun t68_1 w=>
 k12 t68_1 w))
 (fun t6_1 w=>
 K t6_1 w))))))
def C2W:E0:=[(1,[1,3,5]),(2,[3,5,7]),(3,[3,5,7,8]),(5,[3,5,7,15]),(7,[3,5,7,22]),(9,[3,5,7,29]),(11,[3,5,36]),(12,[3,5])]
theorem B6O(a0 a1 a2:Value)(w:World)(R:Ye)
 (h:B3F (fun v w=>R (.returned v) w) (fun c w=>R (.panicked c) w) a0 a1 a2 w):Calls pr A6N #[a0,a1,a2] w R:=
 B8 (A:=C2W) D4 E3 Go.Proofs.Tryz.func180 kr kr kr
  (Eq.mp kr h)
def B6c(K:Yv)(E:B7)(a0 a1 a2:Value)(w:World):Prop:=
 o pr E w (H1 182 a1) fun t4 w=>
 o pr E w (H1 182 a2) fun t5 w=>
 o pr E w (B4 182) fun t6 w=>
 o pr E w (A8 .eql 3 a0 (vi 0) 3) fun t15 w=>
 B6 t15 (∃j1:Yl,(∀(e1:Nat→Value) w,j1 [] w→
 ∃j2:Yl,(∀(e2:Nat→Value) w,j2 [] w→
 (fun w=>
 oa pr w (A1 182 t4) fun t32=>
 oz pr (C4 182 t4 0) fun t33=>
 oa pr w (A1 3 t33) fun t34=>
 oz pr (C4 182 t4 1) fun t35=>
 oa pr w (A1 3 t35) fun t36=>
 oz pr (E9 .leq 3 t34 t36 3) fun t37=>
 o pr E w (A2 182 t6 t32) fun _ w=>
 rk pr w (A1 3 t35) t36∧
 rk pr w (A1 3 t33) t34∧
 rs pr w t6 182 fun v0_0=>
 K (.tuple #[v0_0,t37]) w) (dr w))∧
 o pr E w (C4 182 t5 1) fun t24 w=>
 o pr E w (A1 3 t24) fun t25 w=>
 o pr E w (C4 182 t4 1) fun t26 w=>
 o pr E w (A1 3 t26) fun t27 w=>
 o pr E w (E9 .lss 3 t25 t27 3) fun t28 w=>
 B6 t28 (o pr E w (C4 182 t5 1) fun t29 w=>
 o pr E w (A1 3 t29) fun t30 w=>
 o pr E w (C4 182 t4 1) fun t31 w=>
 o pr E w (A2 3 t31 t30) fun _ w=>
 j2 [] w)
  (j2 [] w))∧
 o pr E w (C4 182 t5 0) fun t16 w=>
 o pr E w (A1 3 t16) fun t17 w=>
 o pr E w (C4 182 t4 0) fun t18 w=>
 o pr E w (A1 3 t18) fun t19 w=>
 o pr E w (E9 .gtr 3 t17 t19 3) fun t20 w=>
 B6 t20 (o pr E w (C4 182 t5 0) fun t21 w=>
 o pr E w (A1 3 t21) fun t22 w=>
 o pr E w (C4 182 t4 0) fun t23 w=>
 o pr E w (A2 3 t23 t22) fun _ w=>
 j1 [] w)
  (j1 [] w))
  (∃(I3:Yl) (m3:Yn),I3 [(vi 0),(vi 0),(Value.int IntKind.i64 (-32768))] w∧
 ∀(e3:Nat→Value) w3,I3 [e3 8,e3 9,e3 10] w3→(fun w=>
 ∃j4:Yl,(∀(e4:Nat→Value) w,j4 [e4 8,e4 9] w→
 o pr E w (A8 .add 3 (e3 10) (vi 1) 3) fun t45 w=>
 I3 [(e4 8),(e4 9),t45] w∧m3 [(e4 8),(e4 9),t45] w<m3 [e3 8,e3 9,e3 10] w3)∧
 (fun(k10:Yv)=>
 o pr E w (A8 .leq 3 (e3 10) (vi 32767) 3) fun t39 w=>
 D8 t39 true (o pr E w (A8 .lss 3 (e3 8) (vi 2) 3) fun t42 w=>
 o pr E w (D1 t39 t42 (Value.bool false)) fun t43_1 w=>
 k10 t43_1 w)
  (o pr E w (D1 t39 undef (Value.bool false)) fun t43_2 w=>
 k10 t43_2 w))
 (fun t43 w=>
 B6 t43 (o pr E w (A1 182 t4) fun t46 w=>
 cl pr E w A0h #[t46,a0,(e3 10)] fun t49 w=>
 o pr E w (A1 182 t5) fun t50 w=>
 cl pr E w A0h #[t50,a0,(e3 10)] fun t53 w=>
 (fun(k14:Yv)=>
 D8 t49 true (o pr E w (D1 t49 t53 (Value.bool false)) fun t57_1 w=>
 k14 t57_1 w)
  (o pr E w (D1 t49 undef (Value.bool false)) fun t57_2 w=>
 k14 t57_2 w))
 (fun t57 w=>
 B6 t57 (o pr E w (A8 .add 3 (e3 8) (vi 1) 3) fun t59 w=>
 o pr E w (A8 .eql 3 t59 (vi 2) 3) fun t61 w=>
 B6 t61 (o pr E w (E9 .sub 3 (e3 10) (e3 9) 3) fun t65 w=>
 cl pr E w B3Y #[(e3 9),t65] fun t66 w=>
 o pr E w (E9 .sub 3 (e3 10) (e3 9) 3) fun t69 w=>
 o pr E w (D0 182 [(0,t69),(1,t66)]) fun t71 w=>
 o pr E w (A2 182 t6 t71) fun _ w=>
 rs pr w t6 182 fun v0_1=>
 K (.tuple #[v0_1,(Value.bool true)]) w)
  (j4 [t59,(e3 10)] w))
  (j4 [(e3 8),(e3 9)] w)))
  (o pr E w (D0 182 [(0,(vi 0)),(1,(e3 9))]) fun t74 w=>
 o pr E w (A8 .gtr 3 (e3 8) (vi 0) 3) fun t76 w=>
 o pr E w (A2 182 t6 t74) fun _ w=>
 rs pr w t6 182 fun v0_2=>
 K (.tuple #[v0_2,t76]) w))) w3)
def C5c:E0:=[(1,[0,4,5,6]),(2,[0,4,5,6,15]),(3,[4,5,6,20]),(4,[4,5,6]),(5,[4,5,6,28]),(6,[4,6]),(7,[0,4,5,6]),(8,[0,4,5,6,8]),(9,[0,4,5,6,8,9]),(10,[0,4,5,6,8,9,10]),(11,[0,4,5,6,8,9,10]),(12,[0,4,5,6,8,9,10]),(13,[0,4,5,6,8,9,10,11]),(14,[0,4,5,6,8,9,10,11,12]),(15,[0,4,5,6,8,9,10,57]),(16,[0,4,5,6,8,9,10]),(17,[0,4,5,6,8,9,10,61]),(18,[6,9,10,13]),(19,[0,4,5,6,8,10]),(20,[6,8,9])]
theorem B8Q(a0 a1 a2:Value)(w:World)(R:Ye)
 (h:B6c (fun v w=>R (.returned v) w) (fun c w=>R (.panicked c) w) a0 a1 a2 w):Calls pr A2K #[a0,a1,a2] w R:=
 B8 (A:=C5c) D4 E3 Go.Proofs.Tryz.func181 kr kr kr
  (Eq.mp kr h)
def A3l(K:Yv)(E:B7)(a0 a1 a2 a3 a4 a5:Value)(w:World):Prop:=
 o pr E w (H1 116 a1) fun t7 w=>
 o pr E w (H1 182 a3) fun t9 w=>
 o pr E w (H1 182 a5) fun t11 w=>
 o pr E w (B4 116) fun t12 w=>
 o pr E w (C7 a0) fun t18 w=>
 o pr E w (C4 177 t18 0) fun t19 w=>
 o pr E w (A1 83 t19) fun t20 w=>
 o pr E w (C7 t20) fun t21 w=>
 o pr E w (C4 92 t21 0) fun t22 w=>
 o pr E w (A1 90 t22) fun t23 w=>
 o pr E w (X0 90 t23 a2) fun t25 w=>
 o pr E w (A1 151 t25) fun t26 w=>
 o pr E w (B4 151) fun t13 w=>
 o pr E w (A2 151 t13 t26) fun _ w=>
 (fun(k2:Yv)=>
 o pr E w (C4 116 t7 0) fun t27 w=>
 o pr E w (A1 4 t27) fun t28 w=>
 D8 t28 false (o pr E w (C4 151 t13 0) fun t30 w=>
 o pr E w (A1 3 t30) fun t31 w=>
 o pr E w (A8 .neq 3 t31 (vi 2) 3) fun t32 w=>
 o pr E w (D1 t28 (Value.bool true) t32) fun t33_1 w=>
 k2 t33_1 w)
  (o pr E w (D1 t28 (Value.bool true) undef) fun t33_2 w=>
 k2 t33_2 w))
 (fun t33 w=>
 B6 t33 (o pr E w (A1 116 t7) fun t34 w=>
 o pr E w (A2 116 t12 t34) fun _ w=>
 rs pr w t12 116 fun v0_0=>
 K v0_0 w)
  (∃j1:Yl,(∀(e1:Nat→Value) w,j1 [e1 14] w→
 (fun w=>
 (fun(k9:Value→Value→World→Prop)=>
 oz pr (C7 a0) fun t51=>
 oz pr (C4 177 t51 1) fun t52=>
 oz pr (C4 112 t52 0) fun t53=>
 oa pr w (A1 3 t53) fun t54=>
 oz pr (C4 116 t7 1) fun t55=>
 oa pr w (A1 114 t55) fun t56=>
 oz pr (C4 151 t13 4) fun t57=>
 oa pr w (A1 3 t57) fun t58=>
 oz pr (X0 114 t56 t58) fun t59=>
 oa pr w (A1 182 t59) fun t60=>
 oa pr w (A1 182 (e1 14)) fun t61=>
 (cl pr E w A2K #[t54,t60,t61] fun t62 w=>
 oz pr (D6 t62 0) fun t63=>
 oz pr (D6 t62 1) fun t64=>
 o pr E w (B4 182) fun t15_1 w=>
 o pr E w (A2 182 t15_1 t63) fun _ w=>
 k9 t15_1 t64 w)∧
 (o pr E w (B4 182) fun t15_2 w=>
 rk pr w (A1 182 (e1 14)) t61∧
 rk pr w (A1 182 t59) t60∧
 rk pr w (A1 3 t57) t58∧
 rk pr w (A1 114 t55) t56∧
 rk pr w (A1 3 t53) t54∧
 cl pr E w A2K #[t54,t60,t61] fun t62_1 w=>
 oz pr (D6 t62_1 0) fun t63_1=>
 oz pr (D6 t62_1 1) fun t64_1=>
 o pr E w (A2 182 t15_2 t63_1) fun _ w=>
 k9 t15_2 t64_1 w))
 (fun t15 t16 w=>
 o pr E w (sUn .not 4 t16) fun t66 w=>
 B6 t66 (cl pr E w O6 #[] fun t67 w=>
 o pr E w (A2 116 t12 t67) fun _ w=>
 rs pr w t12 116 fun v0_1=>
 K v0_1 w)
  (o pr E w (A1 116 t7) fun t68 w=>
 o pr E w (C4 151 t13 4) fun t69 w=>
 o pr E w (A1 3 t69) fun t70 w=>
 o pr E w (A1 182 t15) fun t71 w=>
 cl pr E w R5 #[t68,t70,t71] fun t72 w=>
 o pr E w (A2 116 t12 t72) fun _ w=>
 rs pr w t12 116 fun v0_2=>
 K v0_2 w))) (dr w))∧
 o pr E w (A1 182 t11) fun t35 w=>
 o pr E w (B4 182) fun t14 w=>
 o pr E w (A2 182 t14 t35) fun _ w=>
 o pr E w (C7 a0) fun t37 w=>
 o pr E w (C4 177 t37 1) fun t38 w=>
 o pr E w (C4 112 t38 0) fun t39 w=>
 o pr E w (A1 3 t39) fun t40 w=>
 o pr E w (A8 .eql 3 t40 (vi 0) 3) fun t41 w=>
 B6 t41 (o pr E w (A1 182 t9) fun t42 w=>
 o pr E w (A1 182 t11) fun t44 w=>
 cl pr E w A4E #[t42,a4,t44] fun t45 w=>
 o pr E w (A2 182 t14 t45) fun _ w=>
 j1 [t14] w)
  (o pr E w (A8 .neq 9 a4 (Value.string (S [61,61])) 9) fun t47 w=>
 B6 t47 (o pr E w (A1 116 t7) fun t48 w=>
 o pr E w (A2 116 t12 t48) fun _ w=>
 rs pr w t12 116 fun v0_3=>
 K v0_3 w)
  (j1 [t14] w))))
def A8M:E0:=[(1,[0,2,4,7,9,11,12]),(2,[0,4,7,9,11,12,13]),(3,[0,4,7,9,11,12,13,33]),(4,[0,4,7,9,11,12,13]),(5,[0,4,7,9,11,12,13,14]),(6,[0,4,7,9,11,12,13,14,41]),(8,[0,7,12,13,14,47]),(9,[0,7,12,13,14]),(10,[7,12,13,15,16]),(11,[7,12,13,15,66]),(12,[7,12,13,15])]
theorem A6u(a0 a1 a2 a3 a4 a5:Value)(w:World)(R:Ye)
 (h:A3l (fun v w=>R (.returned v) w) (fun c w=>R (.panicked c) w) a0 a1 a2 a3 a4 a5 w):Calls pr Z6 #[a0,a1,a2,a3,a4,a5] w R:=
 B8 (A:=A8M) D4 E3 Go.Proofs.Tryz.func182 kr kr kr
  (Eq.mp kr h)
def B1W(K:Yv)(E:B7)(a0:Value)(w:World):Prop:=
 o pr E w (A8 .eql 9 a0 (Value.string (S [60])) 9) fun t5 w=>
 B6 t5 (K (Value.string (S [62])) w)
  (o pr E w (A8 .eql 9 a0 (Value.string (S [60,61])) 9) fun t7 w=>
 B6 t7 (K (Value.string (S [62,61])) w)
  (o pr E w (A8 .eql 9 a0 (Value.string (S [62])) 9) fun t9 w=>
 B6 t9 (K (Value.string (S [60])) w)
  (o pr E w (A8 .eql 9 a0 (Value.string (S [62,61])) 9) fun t11 w=>
 B6 t11 (K (Value.string (S [60,61])) w)
  (K a0 w))))
def C0P:E0:=[(1,[0]),(2,[0,3]),(3,[0,3,4]),(5,[0,3,6]),(7,[0,3,8]),(9,[0,10]),(10,[0])]
theorem B4X(a0:Value)(w:World)(R:Ye)
 (h:B1W (fun v w=>R (.returned v) w) (fun c w=>R (.panicked c) w) a0 w):Calls pr A8F #[a0] w R:=
 B8 (A:=C0P) D4 E3 Go.Proofs.Tryz.func183 kr kr kr
  (Eq.mp kr h)
def B8S(K:Yv)(E:B7)(a0:Value)(w:World):Prop:=
 o pr E w (A8 .lss 3 a0 (vi 0) 3) fun t4 w=>
 B6 t4 (o pr E w (sUn .neg 3 a0) fun t6 w=>
 K t6 w)
  (K a0 w)
def C6W:E0:=[(1,[0]),(2,[0,4]),(3,[0])]
theorem C0z(a0:Value)(w:World)(R:Ye)
 (h:B8S (fun v w=>R (.returned v) w) (fun c w=>R (.panicked c) w) a0 w):Calls pr A7O #[a0] w R:=
 B8 (A:=C6W) D4 E3 Go.Proofs.Tryz.func195 kr kr kr
  (Eq.mp kr h)
def B3E(K:Yv)(E:B7)(a0 a1 a2:Value)(w:World):Prop:=
 o pr E w (H1 182 a0) fun t3 w=>
 o pr E w (H1 182 a2) fun t5 w=>
 o pr E w (B4 182) fun t6 w=>
 ∃j1:Yl,(∀(e1:Nat→Value) w,j1 [e1 7] w→
 o pr E w (A1 182 (e1 7)) fun t67 w=>
 o pr E w (A2 182 t6 t67) fun _ w=>
 rs pr w t6 182 fun v0_0=>
 K v0_0 w)∧
 o pr E w (D0 182 [(0,(Value.int IntKind.i64 (-32768))),(1,(vi 32767))]) fun t8 w=>
 o pr E w (B4 182) fun t7 w=>
 o pr E w (A2 182 t7 t8) fun _ w=>
 o pr E w (A8 .eql 9 a1 (Value.string (S [60])) 9) fun t43 w=>
 B6 t43 (o pr E w (C4 182 t5 1) fun t44 w=>
 o pr E w (A1 3 t44) fun t45 w=>
 o pr E w (A8 .sub 3 t45 (vi 1) 3) fun t46 w=>
 o pr E w (C4 182 t7 1) fun t47 w=>
 o pr E w (A2 3 t47 t46) fun _ w=>
 j1 [t7] w)
  (o pr E w (A8 .eql 9 a1 (Value.string (S [60,61])) 9) fun t49 w=>
 B6 t49 (o pr E w (C4 182 t5 1) fun t50 w=>
 o pr E w (A1 3 t50) fun t51 w=>
 o pr E w (C4 182 t7 1) fun t52 w=>
 o pr E w (A2 3 t52 t51) fun _ w=>
 j1 [t7] w)
  (o pr E w (A8 .eql 9 a1 (Value.string (S [62])) 9) fun t54 w=>
 B6 t54 (o pr E w (C4 182 t5 0) fun t55 w=>
 o pr E w (A1 3 t55) fun t56 w=>
 o pr E w (A8 .add 3 t56 (vi 1) 3) fun t57 w=>
 o pr E w (C4 182 t7 0) fun t58 w=>
 o pr E w (A2 3 t58 t57) fun _ w=>
 j1 [t7] w)
  (o pr E w (A8 .eql 9 a1 (Value.string (S [62,61])) 9) fun t60 w=>
 B6 t60 (o pr E w (C4 182 t5 0) fun t61 w=>
 o pr E w (A1 3 t61) fun t62 w=>
 o pr E w (C4 182 t7 0) fun t63 w=>
 o pr E w (A2 3 t63 t62) fun _ w=>
 j1 [t7] w)
  (o pr E w (A8 .eql 9 a1 (Value.string (S [61,61])) 9) fun t65 w=>
 B6 t65 (o pr E w (A1 182 t5) fun t66 w=>
 o pr E w (A2 182 t6 t66) fun _ w=>
 rs pr w t6 182 fun v0_1=>
 K v0_1 w)
  (∃j2:Yl,(∀(e2:Nat→Value) w,j2 [] w→
 (fun(k5:Yv)=>
 o pr E w (C4 182 t5 0) fun t26 w=>
 o pr E w (A1 3 t26) fun t27 w=>
 o pr E w (C4 182 t5 1) fun t28 w=>
 o pr E w (A1 3 t28) fun t29 w=>
 o pr E w (E9 .eql 3 t27 t29 3) fun t30 w=>
 D8 t30 true (o pr E w (C4 182 t3 1) fun t32 w=>
 o pr E w (A1 3 t32) fun t33 w=>
 o pr E w (C4 182 t5 0) fun t34 w=>
 o pr E w (A1 3 t34) fun t35 w=>
 o pr E w (E9 .eql 3 t33 t35 3) fun t36 w=>
 o pr E w (D1 t30 t36 (Value.bool false)) fun t37_1 w=>
 k5 t37_1 w)
  (o pr E w (D1 t30 undef (Value.bool false)) fun t37_2 w=>
 k5 t37_2 w))
 (fun t37 w=>
 B6 t37 (o pr E w (C4 182 t3 1) fun t38 w=>
 o pr E w (A1 3 t38) fun t39 w=>
 o pr E w (A8 .sub 3 t39 (vi 1) 3) fun t40 w=>
 o pr E w (C4 182 t7 1) fun t41 w=>
 o pr E w (A2 3 t41 t40) fun _ w=>
 j1 [t7] w)
  (j1 [t7] w)))∧
 (fun(k3:Yv)=>
 o pr E w (C4 182 t5 0) fun t10 w=>
 o pr E w (A1 3 t10) fun t11 w=>
 o pr E w (C4 182 t5 1) fun t12 w=>
 o pr E w (A1 3 t12) fun t13 w=>
 o pr E w (E9 .eql 3 t11 t13 3) fun t14 w=>
 D8 t14 true (o pr E w (C4 182 t3 0) fun t16 w=>
 o pr E w (A1 3 t16) fun t17 w=>
 o pr E w (C4 182 t5 0) fun t18 w=>
 o pr E w (A1 3 t18) fun t19 w=>
 o pr E w (E9 .eql 3 t17 t19 3) fun t20 w=>
 o pr E w (D1 t14 t20 (Value.bool false)) fun t21_1 w=>
 k3 t21_1 w)
  (o pr E w (D1 t14 undef (Value.bool false)) fun t21_2 w=>
 k3 t21_2 w))
 (fun t21 w=>
 B6 t21 (o pr E w (C4 182 t3 0) fun t22 w=>
 o pr E w (A1 3 t22) fun t23 w=>
 o pr E w (A8 .add 3 t23 (vi 1) 3) fun t24 w=>
 o pr E w (C4 182 t7 0) fun t25 w=>
 o pr E w (A2 3 t25 t24) fun _ w=>
 j2 [] w)
  (j2 [] w)))))))
def C2V:E0:=[(1,[1,3,5,6]),(2,[1,3,5,6,7]),(4,[3,5,6,7,21]),(5,[3,5,6,7]),(6,[3,6,7,37]),(7,[3,5,6,7,9]),(8,[3,5,6,7,9,42]),(10,[3,5,6,7,9,48]),(12,[3,5,6,7,9,53]),(14,[3,5,6,7,9,59]),(16,[3,5,6,7,64]),(17,[6,7])]
theorem B6N(a0 a1 a2:Value)(w:World)(R:Ye)
 (h:B3E (fun v w=>R (.returned v) w) (fun c w=>R (.panicked c) w) a0 a1 a2 w):Calls pr A4E #[a0,a1,a2] w R:=
 B8 (A:=C2V) D4 E3 Go.Proofs.Tryz.func196 kr kr kr
  (Eq.mp kr h)
def B2g(K:Yv)(E:B7)(a0 a1 a2 a3 a4:Value)(w:World):Prop:=
 cl pr E w A3y #[a0,(vi 0),a1,a2,a3,a4] fun t16 w=>
 K t16 w
def C0Y:E0:=[(1,[0,1,2,3,4])]
theorem B5g(a0 a1 a2 a3 a4:Value)(w:World)(R:Ye)
 (h:B2g (fun v w=>R (.returned v) w) (fun c w=>R (.panicked c) w) a0 a1 a2 a3 a4 w):Calls pr B3Z #[a0,a1,a2,a3,a4] w R:=
 B8 (A:=C0Y) D4 E3 Go.Proofs.Tryz.func9 kr kr kr
  (Eq.mp kr h)
def A9a(K:Yv)(E:B7)(a0 a1 a2 a3 a4 a5:Value)(w:World):Prop:=
 o pr E w (sB .len [9] 3 [a0]) fun t25 w=>
 o pr E w (A8 .gtr 3 t25 (vi 1048576) 3) fun t26 w=>
 B6 t26 (K (Value.bool true) w)
  (o pr E w (D0 45 [(0,a1),(1,a2),(2,a3),(3,a4),(4,a5)]) fun t34 w=>
 cl pr E w A2o #[a0,t34] fun t35 w=>
 o pr E w (D6 t35 0) fun t36 w=>
 o pr E w (D6 t35 1) fun t37 w=>
 o pr E w (B4 49) fun t13 w=>
 o pr E w (A2 49 t13 t36) fun _ w=>
 cl pr E w A6j #[t37] fun t40 w=>
 o pr E w (D6 t40 0) fun t41 w=>
 o pr E w (D6 t40 1) fun t42 w=>
 o pr E w (D0 112 [(0,a1),(1,a2),(2,a3),(3,a4),(4,a5)]) fun t50 w=>
 cl pr E w A0u #[a0,t50] fun t51 w=>
 o pr E w (D6 t51 0) fun t52 w=>
 o pr E w (D6 t51 1) fun t53 w=>
 o pr E w (D6 t51 2) fun t54 w=>
 o pr E w (D6 t51 3) fun t55 w=>
 (fun(k6:Yv)=>
 cl pr E w B5w #[t41] fun t57 w=>
 o pr E w (E9 .neq 3 t57 t54 3) fun t59 w=>
 (fun(q1:Yv)=>
 D8 t59 false (o pr E w (E9 .neq 3 t42 t55 3) fun t63 w=>
 q1 t63 w)
  (q1 undef w))
 (fun t63_1 w=>
 o pr E w (D1 t59 (Value.bool true) t63_1) fun t64 w=>
 (fun(q2:Yv)=>
 D8 t64 false (o pr E w (C4 49 t13 0) fun t66 w=>
 o pr E w (A1 47 t66) fun t67 w=>
 o pr E w (sB .len [47] 3 [t67]) fun t68 w=>
 o pr E w (sB .len [109] 3 [t52]) fun t70 w=>
 o pr E w (E9 .neq 3 t68 t70 3) fun t71 w=>
 q2 t71 w)
  (q2 undef w))
 (fun t71_1 w=>
 o pr E w (D1 t64 (Value.bool true) t71_1) fun t72 w=>
 D8 t72 false (o pr E w (C4 49 t13 1) fun t74 w=>
 o pr E w (A1 22 t74) fun t75 w=>
 o pr E w (sB .len [22] 3 [t75]) fun t76 w=>
 o pr E w (sB .len [22] 3 [t53]) fun t78 w=>
 o pr E w (E9 .neq 3 t76 t78 3) fun t79 w=>
 o pr E w (D1 t72 (Value.bool true) t79) fun t80_1 w=>
 k6 t80_1 w)
  (o pr E w (D1 t72 (Value.bool true) undef) fun t80_2 w=>
 k6 t80_2 w))))
 (fun t80 w=>
 B6 t80 (K (Value.bool false) w)
  (∃(I1:Yl) (m1:Yn),I1 [(vi 0)] w∧
 ∀(e1:Nat→Value) w1,I1 [e1 21] w1→(fun w=>
 o pr E w (sB .len [109] 3 [t52]) fun t83 w=>
 o pr E w (E9 .lss 3 (e1 21) t83 3) fun t84 w=>
 B6 t84 ((fun w=>
 oz pr (C4 49 t13 0) fun t87=>
 oa pr w (A1 47 t87) fun t88=>
 oz pr (X0 47 t88 (e1 21)) fun t90=>
 oa pr w (A1 103 t90) fun t91=>
 oz pr (X0 109 t52 (e1 21)) fun t94=>
 oa pr w (A1 116 t94) fun t95=>
 cl pr E w A6i #[t91,t95] fun t96 w=>
 o pr E w (sUn .not 4 t96) fun t98 w=>
 B6 t98 (K (Value.bool false) w)
  (o pr E w (A8 .add 3 (e1 21) (vi 1) 3) fun t86 w=>
 I1 [t86] w∧m1 [t86] w<m1 [e1 21] w1)) (dr w))
  (∃(I2:Yl) (m2:Yn),I2 [(vi 0)] w∧
 ∀(e2:Nat→Value) w2,I2 [e2 23] w2→(fun w=>
 o pr E w (sB .len [22] 3 [t53]) fun t101 w=>
 o pr E w (E9 .lss 3 (e2 23) t101 3) fun t102 w=>
 B6 t102 ((fun w=>
 oz pr (C4 49 t13 1) fun t105=>
 oa pr w (A1 22 t105) fun t106=>
 oz pr (X0 22 t106 (e2 23)) fun t108=>
 oa pr w (A1 3 t108) fun t109=>
 oz pr (X0 22 t53 (e2 23)) fun t112=>
 oa pr w (A1 3 t112) fun t113=>
 oz pr (E9 .neq 3 t109 t113 3) fun t114=>
 B6 t114 (K (Value.bool false) w)
  (o pr E w (A8 .add 3 (e2 23) (vi 1) 3) fun t104 w=>
 I2 [t104] w∧m2 [t104] w<m2 [e2 23] w2)) (dr w))
  (K (Value.bool true) w)) w2)) w1)))
def B7e:E0:=[(1,[0,1,2,3,4,5]),(2,[0,1,2,3,4,5,26]),(3,[0,1,2,3,4,5]),(4,[0,1,2,3,4,5,13,14]),(5,[0,1,2,3,4,5,13,15,16]),(6,[13,15,16,17,18,19,20]),(7,[13,17,18,80]),(8,[13,17,18]),(9,[13,17,18,21]),(10,[13,17,18,21]),(11,[13,17,18,21]),(12,[13,17,18,21,22]),(13,[13,17,18,21,98]),(14,[13,18]),(15,[13,18,23]),(16,[13,18,23]),(17,[13,18,23]),(18,[13,18,23,114]),(19,[])]
theorem B2B(a0 a1 a2 a3 a4 a5:Value)(w:World)(R:Ye)
 (h:A9a (fun v w=>R (.returned v) w) (fun c w=>R (.panicked c) w) a0 a1 a2 a3 a4 a5 w):Calls pr A3y #[a0,a1,a2,a3,a4,a5] w R:=
 B8 (A:=B7e) D4 E3 Go.Proofs.Tryz.func25 kr kr kr
  (Eq.mp kr h)
def A8Z(K:Yv)(E:B7)(a0 a1:Value)(w:World):Prop:=
 o pr E w (H1 103 a0) fun t2 w=>
 o pr E w (H1 116 a1) fun t3 w=>
 o pr E w (C4 103 t2 0) fun t8 w=>
 o pr E w (A1 4 t8) fun t9 w=>
 o pr E w (C4 116 t3 0) fun t10 w=>
 o pr E w (A1 4 t10) fun t11 w=>
 o pr E w (E9 .eql 4 t9 t11 4) fun t12 w=>
 B6 t12 (K (Value.bool false) w)
  (∃(I1:Yl) (m1:Yn),I1 [(vi 0)] w∧
 ∀(e1:Nat→Value) w1,I1 [e1 5] w1→(fun w=>
 ∃j2:Yl,(∀(e2:Nat→Value) w,j2 [] w→
 o pr E w (A8 .add 3 (e1 5) (vi 1) 3) fun t16 w=>
 I1 [t16] w∧m1 [t16] w<m1 [e1 5] w1)∧
 o pr E w (A8 .lss 3 (e1 5) (vi 8) 3) fun t14 w=>
 B6 t14 (∃j3:Yl,(∀(e3:Nat→Value) w,j3 [e3 6,e3 7] w→
 (fun(k11:Yv)=>
 o pr E w (C4 103 t2 1) fun t33 w=>
 o pr E w (X0 101 t33 (e1 5)) fun t34 w=>
 o pr E w (C4 100 t34 0) fun t35 w=>
 o pr E w (A1 2 t35) fun t36 w=>
 o pr E w (E9 .neq 2 t36 (e3 6) 2) fun t38 w=>
 D8 t38 false (o pr E w (C4 103 t2 1) fun t41 w=>
 o pr E w (X0 101 t41 (e1 5)) fun t42 w=>
 o pr E w (C4 100 t42 1) fun t43 w=>
 o pr E w (A1 2 t43) fun t44 w=>
 o pr E w (E9 .neq 2 t44 (e3 7) 2) fun t46 w=>
 o pr E w (D1 t38 (Value.bool true) t46) fun t47_1 w=>
 k11 t47_1 w)
  (o pr E w (D1 t38 (Value.bool true) undef) fun t47_2 w=>
 k11 t47_2 w))
 (fun t47 w=>
 B6 t47 (K (Value.bool false) w)
  (j2 [] w)))∧
 o pr E w (C4 116 t3 0) fun t17 w=>
 o pr E w (A1 4 t17) fun t18 w=>
 o pr E w (sUn .not 4 t18) fun t19 w=>
 B6 t19 (o pr E w (C4 116 t3 1) fun t20 w=>
 o pr E w (A1 114 t20) fun t21 w=>
 o pr E w (X0 114 t21 (e1 5)) fun t23 w=>
 o pr E w (C4 182 t23 0) fun t24 w=>
 o pr E w (A1 3 t24) fun t25 w=>
 o pr E w (C4 116 t3 1) fun t26 w=>
 o pr E w (A1 114 t26) fun t27 w=>
 o pr E w (X0 114 t27 (e1 5)) fun t29 w=>
 o pr E w (C4 182 t29 1) fun t30 w=>
 o pr E w (A1 3 t30) fun t31 w=>
 j3 [t25,t31] w)
  (j3 [(vi 0),(vi 0)] w))
  (K (Value.bool true) w)) w1)
def B7d:E0:=[(1,[2,3]),(2,[2,3,12]),(3,[2,3]),(4,[2,3,5]),(5,[2,3,5]),(6,[2,3,5]),(7,[2,3,5,6]),(8,[2,3,5,6,7]),(9,[2,3,5,6,7,19]),(10,[2,3,5,6]),(11,[2,3,5,6,7]),(12,[2,3,5,47]),(13,[])]
theorem B2A(a0 a1:Value)(w:World)(R:Ye)
 (h:A8Z (fun v w=>R (.returned v) w) (fun c w=>R (.panicked c) w) a0 a1 w):Calls pr A6i #[a0,a1] w R:=
 B8 (A:=B7d) D4 E3 Go.Proofs.Tryz.func42 kr kr kr
  (Eq.mp kr h)
end Go.Inv
namespace Go.Inv
open Go.Sh
abbrev C0s:Nat:=149
abbrev A7o:Nat:=92
abbrev A4N:Nat:=151
def Nd.l(x:Nd):List Value:=[vi x.kind,vi x.a,vi x.b,vi x.c,vi x.n,vi x.next,.string (S x.sign),vi x.site,vi x.point,.bool x.els]
abbrev Nd.v(x:Nd):Value:=.agg #[vi x.kind,vi x.a,vi x.b,vi x.c,vi x.n,vi x.next,.string (S x.sign),vi x.site,vi x.point,.bool x.els]
def P5(B:Nat)(w:World)(v:Value)(ns:List Nd):Prop:=w.ownsRow B A4N 10 v ns.length (ns.flatMap Nd.l)
abbrev rfC(src:A6)(p:Nat)(s:RF):Array Value:=#[.string (S src),vi s.en,vi s.at_,.string (S s.txt),pt p 0,vi s.op,vi s.err]
structure T6(src:A6)(B r p:Nat)(w:World)(s:RF):Prop where
 rd:w.heap[r]?=some (.cells (rfC src p s) C0s)
 pg:∃nv kv,w.heap[p]?=some (.cells #[nv,vi 0,vi s.pts,vi s.sites,kv] A7o)∧P5 B w nv s.ns∧A0B B w kv s.nums
 rB:B≤r
 pB:B≤p
 wB:B≤w.heap.size
def B2o(r p:Nat)(w:World)(c:Nat):Prop:=c<w.heap.size∧c≠r∧c≠p∧∀nv a b d kv t,w.heap[p]?=some (.cells #[nv,a,b,d,kv] t)→nv.ownBlock≠some c∧kv.ownBlock≠some c
structure FrB(B r p:Nat)(w w':World):Prop where
 size:w.heap.size≤w'.heap.size
 old:∀c,c<B→w'.heap[c]?=w.heap[c]?
 out:Out w w'
 safe:∀c,B2o r p w c→w'.heap[c]?=w.heap[c]?∧B2o r p w' c
theorem FrB.refl(B r p:Nat)(w:World):FrB B r p w w:=⟨Nat.le_refl _,fun _ _=>rfl,.refl _,fun _ h=>⟨rfl,h⟩⟩
theorem FrB.trans{B r p:Nat}{a b c:World}(h:FrB B r p a b)(g:FrB B r p b c):FrB B r p a c:=⟨Nat.le_trans h.size g.size,fun i hi=>(g.old i hi).trans (h.old i hi),h.out.trans g.out,fun i hi=>⟨(g.safe i (h.safe i hi).2).1.trans (h.safe i hi).1,(g.safe i (h.safe i hi).2).2⟩⟩
theorem FrB.of_old{B r p:Nat}{a b:World}(h:D9 a b)(hB:B≤a.heap.size)(hp:p<a.heap.size):FrB B r p a b:=
 ⟨h.size,fun c hc=>h.old c om,h.out,fun c hc=>⟨h.old c hc.1,Nat.lt_of_lt_of_le hc.1 h.size,hc.2.1,hc.2.2.1,fun nv x y d kv t hq=>hc.2.2.2 nv x y d kv t (by rw[←h.old p hp];exact hq)⟩⟩
theorem FrB.dr{B r p:Nat}{a b:World}(h:FrB B r p a b):FrB B r p a (dr b):=⟨h.size,h.old,h.out.dr,h.safe⟩
theorem FrB.putR{B r p:Nat}{a b:World}(h:FrB B r p a b){i:Nat}{v:Value}(hr:B≤r)(hne:r≠p):FrB B r p a (put b r i v):=
 h.trans ⟨by rw[G2];exact Nat.le_refl _,fun c hc=>by rw[A7 om],(Out.refl b).put,fun c hc=>⟨by rw[A7 hc.2.1],by rw[G2];exact hc.1,hc.2.1,hc.2.2.1,fun nv x y d kv t hq=>hc.2.2.2 nv x y d kv t (by rw[A7 hne.symm]at hq;exact hq)⟩⟩
theorem FrB.putP{B r p t:Nat}{a b:World}(h:FrB B r p a b){i:Nat}{v nv x y d x' y' d' kv:Value}(hp:B≤p)(hq:b.heap[p]?=some (.cells #[nv,x,y,d,kv] t))(hc:(#[nv,x,y,d,kv]:Array Value).setIfInBounds i v=#[nv,x',y',d',kv]):FrB B r p a (put b p i v):=
 h.trans ⟨by rw[G2];exact Nat.le_refl _,fun c hc=>by rw[A7 om],(Out.refl b).put,fun c hs=>⟨by rw[A7 hs.2.2.1],by rw[G2];exact hs.1,hs.2.1,hs.2.2.1,fun nv2 x2 y2 d2 kv2 t2 hq2=>by
  rw[C6,hq,M6,hc]at hq2;injection hq2 with hq2;injection hq2 with e1 e2
  obtain⟨rfl,_,_,_,rfl⟩:nv=nv2∧x'=x2∧y'=y2∧d'=d2∧kv=kv2:=by simpa using e1
  exact hs.2.2.2 _ _ _ _ _ _ hq⟩⟩
theorem FrB.grow0{B r p t:Nat}{b c:World}{v nv x y d kv:Value}(hp:B≤p)(hBs:B≤b.heap.size)(hnB:∀k,nv.ownBlock=some k→B≤k)(hq:b.heap[p]?=some (.cells #[nv,x,y,d,kv] t))(hg:b.grownBy c nv.ownBlock)(hqc:c.heap[p]?=some (.cells #[nv,x,y,d,kv] t))
 (hv:v.ownBlock=nv.ownBlock∨∀g,v.ownBlock=some g→b.heap.size≤g):FrB B r p b (put c p 0 v):=
 ⟨by rw[G2];exact hg.size,fun k hk=>by rw[A7 om,hg.block k om (fun e=>by have:=hnB k e.symm;omega)],((Out.refl b).grown hg).put,fun k hs=>by
  have hn:=hs.2.2.2 _ _ _ _ _ _ hq;refine⟨by rw[A7 hs.2.2.1,hg.block k hs.1 (fun e=>hn.1 e.symm)],by rw[G2];exact Nat.lt_of_lt_of_le hs.1 hg.size,hs.2.1,hs.2.2.1,fun nv2 x2 y2 d2 kv2 t2 hq2=>?_⟩;rw[C6,hqc,M6]at hq2;injection hq2 with hq2;injection hq2 with e1 e2
  obtain⟨rfl,_,_,_,rfl⟩:v=nv2∧x=x2∧y=y2∧d=d2∧kv=kv2:=by simpa using e1
  refine⟨fun e=>?_,hn.2⟩;rcases hv with hv|hv
  ·rw[hv]at e;exact hn.1 e
  ·have:=hv k e;have:=hs.1;omega⟩
theorem FrB.grow4{B r p t:Nat}{b c:World}{v nv x y d kv:Value}(hp:B≤p)(hBs:B≤b.heap.size)(hnB:∀k,kv.ownBlock=some k→B≤k)(hq:b.heap[p]?=some (.cells #[nv,x,y,d,kv] t))(hg:b.grownBy c kv.ownBlock)(hqc:c.heap[p]?=some (.cells #[nv,x,y,d,kv] t))
 (hv:v.ownBlock=kv.ownBlock∨∀g,v.ownBlock=some g→b.heap.size≤g):FrB B r p b (put c p 4 v):=
 ⟨by rw[G2];exact hg.size,fun k hk=>by rw[A7 om,hg.block k om (fun e=>by have:=hnB k e.symm;omega)],((Out.refl b).grown hg).put,fun k hs=>by
  have hn:=hs.2.2.2 _ _ _ _ _ _ hq;refine⟨by rw[A7 hs.2.2.1,hg.block k hs.1 (fun e=>hn.2 e.symm)],by rw[G2];exact Nat.lt_of_lt_of_le hs.1 hg.size,hs.2.1,hs.2.2.1,fun nv2 x2 y2 d2 kv2 t2 hq2=>?_⟩;rw[C6,hqc,M6]at hq2;injection hq2 with hq2;injection hq2 with e1 e2
  obtain⟨rfl,_,_,_,rfl⟩:nv=nv2∧x=x2∧y=y2∧d=d2∧v=kv2:=by simpa using e1
  refine⟨hn.1,fun e=>?_⟩;rcases hv with hv|hv
  ·rw[hv]at e;exact hn.2 e
  ·have:=hv k e;have:=hs.1;omega⟩
theorem O5{B t k n:Nat}{w w':World}{v:Value}{xs:List Value}(h:w.ownsRow B t k v n xs)(hk:∀(c:Nat) (cs:Array Value),w.heap[c]?=some (Obj.cells cs t)→w'.heap[c]?=some (Obj.cells cs t)):w'.ownsRow B t k v n xs:=by
 refine⟨h.1,?_⟩;rcases h.2 with h|⟨nb,cap,c,h1,h2,h3,h4⟩
 ·exact .inl h
 ·exact .inr ⟨nb,cap,c,h1,h2,hk _ _ h3,h4⟩
theorem T6.old{src:A6}{B r p:Nat}{w w':World}{s:RF}(h:T6 src B r p w s)(ho:D9 w w'):T6 src B r p w' s:=by
 obtain⟨nv,kv,h1,h2,h3⟩:=h.pg;exact⟨ho.heap h.rd,⟨nv,kv,ho.heap h1,O5 h2 (fun _ _ h=>ho.heap h),O5 h3 (fun _ _ h=>ho.heap h)⟩,h.rB,h.pB,Nat.le_trans h.wB ho.size⟩
theorem T6.dr{src:A6}{B r p:Nat}{w:World}{s:RF}(h:T6 src B r p w s):T6 src B r p (dr w) s:=h.old ((D9.refl w).dr)
theorem T6.pl{src:A6}{B r p:Nat}{w:World}{s:RF}(h:T6 src B r p w s):p<w.heap.size:=by
 obtain⟨nv,kv,h1,_⟩:=h.pg;exact B9 h1
theorem T6.ne{src:A6}{B r p:Nat}{w:World}{s:RF}(h:T6 src B r p w s):r≠p:=by
 rintro rfl;obtain⟨nv,kv,h1,_⟩:=h.pg;rw[h.rd]at h1;injection h1 with hh;injection hh with _ hh;exact absurd hh (by decide)
theorem T6.setR{src:A6}{B r p:Nat}{w:World}{s s':RF}(h:T6 src B r p w s){i:Nat}{v:Value}(hc:(rfC src p s).setIfInBounds i v=rfC src p s')
 (h1:s'.pts=s.pts)(h2:s'.sites=s.sites)(h3:s'.ns=s.ns)(h4:s'.nums=s.nums):T6 src B r p (put w r i v) s':=by
 obtain⟨nv,kv,g1,g2,g3⟩:=h.pg;have hne:=h.ne;refine⟨by rw[C6,h.rd,M6,hc],⟨nv,kv,by rw[A7 hne.symm,g1,h1,h2],?_,?_⟩,h.rB,h.pB,by rw[G2];exact h.wB⟩
 ·rw[h3];exact O5 g2 fun c cs hcs=>by
   have:c≠r:=fun e=>by rw[e,h.rd]at hcs;injection hcs with hh;injection hh with _ hh;exact absurd hh (by decide)
   rw[A7 this];exact hcs
 ·rw[h4];exact O5 g3 fun c cs hcs=>by
   have:c≠r:=fun e=>by rw[e,h.rd]at hcs;injection hcs with hh;injection hh with _ hh;exact absurd hh (by decide)
   rw[A7 this];exact hcs
theorem T6.setP{src:A6}{B r p:Nat}{w:World}{s s':RF}(h:T6 src B r p w s){i:Nat}{v:Value}(hc:∀nv kv,(#[nv,vi 0,vi s.pts,vi s.sites,kv]:Array Value).setIfInBounds i v=#[nv,vi 0,vi s'.pts,vi s'.sites,kv])
 (h1:rfC src p s'=rfC src p s)(h3:s'.ns=s.ns)(h4:s'.nums=s.nums):T6 src B r p (put w p i v) s':=by
 obtain⟨nv,kv,g1,g2,g3⟩:=h.pg;have hne:=h.ne;refine⟨by rw[A7 hne,h.rd,h1],⟨nv,kv,by rw[C6,g1,M6,hc],?_,?_⟩,h.rB,h.pB,by rw[G2];exact h.wB⟩
 ·rw[h3];exact O5 g2 fun c cs hcs=>by
   have:c≠p:=fun e=>by rw[e,g1]at hcs;injection hcs with hh;injection hh with _ hh;exact absurd hh (by decide)
   rw[A7 this];exact hcs
 ·rw[h4];exact O5 g3 fun c cs hcs=>by
   have:c≠p:=fun e=>by rw[e,g1]at hcs;injection hcs with hh;injection hh with _ hh;exact absurd hh (by decide)
   rw[A7 this];exact hcs
theorem T6.hr{src:A6}{B r p:Nat}{w:World}{s:RF}(h:T6 src B r p w s):w.heap[r]?=some (.cells #[.string (S src),vi s.en,vi s.at_,.string (S s.txt),pt p 0,vi s.op,vi s.err] C0s):=h.rd
theorem gR5(a b c d e f:Value)(l:List Value):(a::b::c::d::e::f::l).toArray[5]?=some f:=by simp
theorem gR6(a b c d e f g:Value)(l:List Value):(a::b::c::d::e::f::g::l).toArray[6]?=some g:=by simp
theorem gR7(a b c d e f g h:Value)(l:List Value):(a::b::c::d::e::f::g::h::l).toArray[7]?=some h:=by simp
theorem gR8(a b c d e f g h i:Value)(l:List Value):(a::b::c::d::e::f::g::h::i::l).toArray[8]?=some i:=by simp
theorem gR9(a b c d e f g h i j:Value)(l:List Value):(a::b::c::d::e::f::g::h::i::j::l).toArray[9]?=some j:=by simp
def GR:=yA gR5<|yA gR6<|yA gR7<|yA gR8 gR9
theorem S0{p:Prop}[Decidable p]{b:Bool}{x y:Prop}(h:b=decide p)(h1:p→x)(h2:¬p→y):B6 (.bool b) x y:=by
 subst h;exact D2 (fun h=>h1 (of_decide_eq_true h)) (fun h=>h2 (of_decide_eq_false h))
def CG:=yA @T7<|yA @A1t<|yA @A0P<|yA @Y4<|yA @O8 @H7
def Zz45:=yA @RV<|yA @GR<|yA @CG<|@Q8
def Zz8:=yA @RV<|yA @GR<|@CG
end Go.Inv
namespace Go.Inv
open Go.Sh
theorem B9r(c:UInt8)(w:World):Calls pr A3v #[vb c] w (Is (.bool (A0I c)) w):=by
 refine B2w _ _ _ ?_;unfold A8W;simp only[↓RG,RV];rw[B6s];refine T9 (fun h=>?_) (fun h=>?_)
 ·first|rw[h]|skip
  simp only[ge_iff_le]at h;simp only[h,ge_iff_le,↓RG,RV,yC];exact⟨rfl,rfl⟩
 ·simp only[ge_iff_le,ne_eq,Bool.not_eq_true]at h;simp only[h,ge_iff_le,↓RG,RV,yC];exact⟨rfl,rfl⟩
theorem B5o(c:UInt8)(w:World):Calls pr A1p #[vb c] w (Is (.bool (T5 c)) w):=by
 refine B3D _ _ _ ?_;unfold A9U;simp only[↓RG,RV];rw[C0a];refine T9 (fun h=>?_) (fun h=>?_)
 ·simp only[ge_iff_le]at h;simp only[h,ge_iff_le,↓RG,RV,yC];exact⟨rfl,rfl⟩
 ·simp only[ge_iff_le,ne_eq,Bool.not_eq_true]at h;simp only[h,ge_iff_le,↓RG,RV,yC];exact⟨rfl,rfl⟩
def A3g:A6:=[60,62,61,43,45,42,47,37,40,41,123,125,59]
def A3O(c:UInt8)(d:Option UInt8):Bool:=d==some 61&&(c==60||c==62||c==61||c==33)
theorem C6n(c:UInt8)(r:A6):O1 (c::r)=if A3O c r.head? then 2 else if c∈A3g then 1 else 0:=by
 unfold O1 A3O A3g;by_cases h1:c=60
 ·subst h1;cases h:(r.head?==some 61)<;>simp[h]
 by_cases h2:c=62
 ·subst h2;cases h:(r.head?==some 61)<;>simp[h]
 by_cases h3:c=61
 ·subst h3;cases h:(r.head?==some 61)<;>simp[h]
 by_cases h4:c=33
 ·subst h4;cases h:(r.head?==some 61)<;>simp[h]
 simp[h1,h2,h3,h4,or_assoc]
def E3B(vs:List Value)(_:World):Nat:=match vs with
 |[.int _ n]=>13- n.toNat
 |_=>0
theorem D2m{src:A6}{i:Nat}{c:UInt8}(hc:src[i]?=some c)(hs:src.length≤400)(w:World):Calls pr B2K #[.string (S src),vi i] w (fun e w'=>e= .returned (vi (O1 (src.drop i)))∧D9 w w'):=by
 have hi:i<src.length:=(List.getElem?_eq_some_iff.1 hc).1;have hdrop:src.drop i=c::src.drop (i+1):=by
  rw[List.drop_eq_getElem_cons hi];congr 1;exact(List.getElem?_eq_some_iff.1 hc).2
 have hhead:(src.drop (i+1)).head?=src[i+1]?:=by simp
 rw[hdrop,C6n,hhead];have hw:IntKind.i64.wrap ((i:Int)+1)=((i+1:Nat):Int):=by rw[H2 om om];omega
 have tail:∀(q:Bool),A3O c src[i+1]?=q→B6 (.bool q) (D9 w w∧True) True→True:=fun _ _ _=>trivial;have two:A3O c src[i+1]?=true→(fun e w'=>e=Ending.returned (vi ((if A3O c src[i+1]?=true then 2 else if c∈A3g then 1 else 0:Nat)))∧D9 w w') (.returned (vi 2)) w:=fun h=>⟨by rw[if_pos h];rfl,D9.refl w⟩;have one:A3O c src[i+1]?=false→∀w',D9 w w'→c∈A3g→(fun e w'=>e=Ending.returned (vi ((if A3O c src[i+1]?=true then 2 else if c∈A3g then 1 else 0:Nat)))∧D9 w w') (.returned (vi 1)) w':=fun h w' ho hm=>⟨by rw[h,if_neg (by simp),if_pos hm];rfl,ho⟩;have nul:A3O c src[i+1]?=false→∀w',D9 w w'→c∉A3g→(fun e w'=>e=Ending.returned (vi ((if A3O c src[i+1]?=true then 2 else if c∈A3g then 1 else 0:Nat)))∧D9 w w') (.returned (vi 0)) w':=fun h w' ho hm=>⟨by rw[h,if_neg (by simp),if_neg hm];rfl,ho⟩;clear tail;generalize hR:(fun(e:Ending) (w':World)=>e=Ending.returned (vi ((if A3O c src[i+1]?=true then 2 else if c∈A3g then 1 else 0:Nat)))∧D9 w w')=R at*;refine B8L _ _ _ _ ?_;unfold B5X
 have loop:A3O c src[i+1]?=false→∃(I1:Yl) (m1:Yn),I1 [(vi 0)] w∧
  ∀(e1:Nat→Value) w1,I1 [e1 6] w1→(fun w=>
  o pr (fun c w=>R (.panicked c) w) w (sB .len [9] 3 [(Value.string (S [60,62,61,43,45,42,47,37,40,41,123,125,59]))]) fun t45 w=>
  o pr (fun c w=>R (.panicked c) w) w (E9 .lss 3 (e1 6) t45 3) fun t46 w=>
  B6 t46 ((fun w=>
  oz pr (R1 9 (.string (S src)) (vi i)) fun t51=>
  oz pr (R1 9 (Value.string (S [60,62,61,43,45,42,47,37,40,41,123,125,59])) (e1 6)) fun t54=>
  oz pr (E9 .eql 5 t51 t54 5) fun t55=>
  B6 t55 (R (.returned (vi 1)) w)
  (o pr (fun c w=>R (.panicked c) w) w (A8 .add 3 (e1 6) (vi 1) 3) fun t48 w=>
  I1 [t48] w∧m1 [t48] w<m1 [e1 6] w1)) (dr w))
  (R (.returned (vi 0)) w)) w1:=fun hq=>by
  refine⟨fun vs w'=>∃k:Nat,vs=[vi k]∧k≤13∧D9 w w'∧∀j,j<k→A3g[j]?≠some c,E3B,⟨0,rfl,om,D9.refl w,fun j hj=>absurd hj om⟩,?_⟩;rintro e1 w1 ⟨k,he,hk,ho,hn⟩;have e6:e1 6=vi k:=by simpa using he
  rw[e6];simp only[↓Zz1,RV];refine D2 (fun h=>?_) (fun h=>?_)
  ·have hk13:k<13:=by simp at h;omega
   obtain⟨d,hd⟩:∃d,A3g[k]?=some d:=⟨A3g[k],List.getElem?_eq_getElem hk13⟩;have hd':([60,62,61,43,45,42,47,37,40,41,123,125,59]:A6)[k]?=some d:=hd;have hwk:IntKind.i64.wrap ((k:Int)+1)=((k+1:Nat):Int):=by rw[H2 om om];omega
   simp only[↓Zz1,RV,M5 hc,M5 hd',bq];refine D2 (fun hcd=>?_) (fun hcd=>?_)
   ·have:c=d:=by simpa using hcd
    subst this;exact one hq _ ho.dr (List.mem_of_getElem? hd)
   ·simp only[↓Zz1,RV,hwk];refine⟨⟨k+1,rfl,hk13,ho.dr,fun j hj=>?_⟩,by simp only[E3B,Int.toNat_natCast];omega⟩;by_cases hjk:j=k
    ·subst hjk;rw[hd];intro e;cases e;simp at hcd
    ·exact hn j om
  ·have hk13:k=13:=by simp at h;omega
   subst hk13;refine nul hq _ ho fun hm=>?_;obtain⟨j,hj,hj2⟩:=List.getElem_of_mem hm;exact hn j hj (by rw[List.getElem?_eq_getElem hj,hj2])
 by_cases hlt:i+1<src.length
 ·obtain⟨d,hd⟩:∃d,src[i+1]?=some d:=⟨src[i+1],List.getElem?_eq_getElem hlt⟩;have hl:decide (((i+1:Nat):Int)<(src.length:Int))=true:=decide_eq_true om;rw[hd]at two loop;simp only[hw,hl,↓Zz1,RV,T7,M5 hd,bqs,yC];cases h61:(d==61)with
  |false=>
   simp only[↓Zz1,Zz56,yC];have hl:=loop (by unfold A3O;rw[show(some d==some (61:UInt8))=(d==61)from rfl,h61];rfl);simp only[↓Zz1,RV]at hl;exact hl
  |true=>
   have ed:(some d==some (61:UInt8))=true:=h61;simp only[↓Zz1,RV,T7,M5 hc,bqs,yC];cases h60:(c==60)with
   |true=>
    simp only[↓Zz1,Zz51,yC];exact two (by unfold A3O;rw[ed,h60];rfl)
   |false=>
    simp only[↓Zz1,Zz57,M5 hc,yC];cases h62:(c==62)with
    |true=>
     simp only[↓Zz1,Zz51,yC];exact two (by unfold A3O;rw[ed,h60,h62];rfl)
    |false=>
     simp only[↓Zz1,Zz57,M5 hc,yC];cases h61':(c==61)with
     |true=>
      simp only[↓Zz1,Zz51,yC];exact two (by unfold A3O;rw[ed,h60,h62,h61'];rfl)
     |false=>
      simp only[↓Zz1,Zz57,M5 hc,yC];cases h33:(c==33)with
      |true=>
       simp only[↓Zz1,Zz51,yC];exact two (by unfold A3O;rw[ed,h60,h62,h61',h33];rfl)
      |false=>
       simp only[↓Zz1,Zz56,yC];have hl:=loop (by unfold A3O;rw[ed,h60,h62,h61',h33];rfl);simp only[↓Zz1,RV,M5 hc,bqs]at hl;exact hl
 ·have hl:decide (((i+1:Nat):Int)<(src.length:Int))=false:=decide_eq_false om;have hnone:src[i+1]?=none:=List.getElem?_eq_none om;rw[hnone]at loop;simp only[hw,hl,↓Zz1,Zz56,yC];have hl:=loop (by unfold A3O;rfl);simp only[↓Zz1,RV]at hl;exact hl
end Go.Inv
namespace Go.Inv
open Go.Sh
theorem B2D(t:A6)(w:World):Calls pr A3u #[.string (S t)] w (Is (.bool (P4 t).isSome) w):=by
 refine B4Y _ _ _ ?_;unfold B1X
 match t with
 |[]=>
  simp only[↓Zz1,RV,List.length_nil,show(((0:Nat):Int)==1)=false from rfl,T7,A1t,A0P,Y4,yC];exact⟨rfl,rfl⟩
 |c::d::r=>
  have:((((c::d::r).length:Nat):Int)==1)=false:=by simp;omega
  simp only[↓Zz1,RV,this,T7,A1t,A0P,Y4,yC];exact⟨rfl,rfl⟩
 |[c]=>
  have hc:=c.toNat_lt;simp only[↓Zz1,Zz58,List.length_cons,List.length_nil,show(((0+1:Nat):Int)==1)=true from rfl,yC];by_cases h1:(97:Int)≤(c.toNat:Int)
  ·have d1:decide (((c.toNat:Nat):Int)≥97)=true:=decide_eq_true h1;simp only[d1,↓Zz1,Zz58,yC];refine⟨?_,rfl⟩;show _=Ending.returned (Value.bool (if 97≤c.toNat∧c.toNat≤104 then some (c.toNat- 97)else none).isSome);by_cases h2:c.toNat≤104
   ·rw[if_pos ⟨om,h2⟩];simp;omega
   ·rw[if_neg om];simp;omega
  ·have d1:decide (((c.toNat:Nat):Int)≥97)=false:=decide_eq_false h1;simp only[d1,↓Zz1,Zz58,yC];refine⟨?_,rfl⟩;show _=Ending.returned (Value.bool (if 97≤c.toNat∧c.toNat≤104 then some (c.toNat- 97)else none).isSome);rw[if_neg om];rfl
def A0S:A6→Nat→Option Nat
 |[],n=>some n
 |c::r,n=>if T5 c then A0S r (n*10+(c.toNat- 48))else none
def C2q(t:A6):Int:=if t=[]∨5<t.length∨(t.head?=some 48∧1<t.length)then -1 else match A0S t 0 with
 |some n=>if n>32767 then -1 else n
 |none=>-1
theorem D0d:∀(r:A6) (i n:Nat),0<i→32767<n→(M3 r i n=none∨(∃m,M3 r i n=some m∧m>32767))
 |[],i,n,_,h=>.inr ⟨n,rfl,h⟩
 |c::r,i,n,hi,h=>.inl (by simp only[M3];rw[if_pos (by simp;omega)])
theorem C1S:∀(r:A6) (i n:Nat),0<i→0<n→n≤32767→(match M3 r i n with|some m=>if m>32767 then none else some m|none=>none)=(match A0S r n with|some m=>if m>32767 then none else some m|none=>none)
 |[],i,n,_,_,_=>rfl
 |c::r,i,n,hi,hn,hb=>by
  simp only[M3,A0S];by_cases hd:T5 c=true
  ·rw[if_neg (by simp[hd];omega),if_pos hd];by_cases hb2:10*n+(c.toNat- 48)≤32767
   ·have:=C1S r (i+1) (10*n+(c.toNat- 48)) om om hb2;rw[this,Nat.mul_comm 10 n]
   ·have h1:=D0d r (i+1) (10*n+(c.toNat- 48)) om om;have h2:∀(r:A6) (n:Nat),32767<n→(match A0S r n with|some m=>if m>32767 then none else some m|none=>(none:Option Nat))=none:=by
     intro r
     induction r with
     |nil=>intro n h;simp only[A0S];rw[if_pos h]
     |cons c r ih=>
      intro n h;simp only[A0S];by_cases hd:T5 c=true
      ·rw[if_pos hd];exact ih _ om
      ·rw[if_neg hd]
    rw[h2 r _ om];rcases h1 with h1|⟨m,h1,h3⟩
    ·rw[h1]
    ·rw[h1];simp only;rw[if_pos h3]
  ·rw[if_pos (by simp[hd]),if_neg hd]
theorem C1m:∀(r:A6) (n m:Nat),A0S r n=some m→n*10^r.length≤m
 |[],n,m,h=>by cases h;simp
 |c::r,n,m,h=>by
  simp only[A0S]at h;split at h
  ·have:=C1m r _ m h;rw[List.length_cons,Nat.pow_succ];have h2:n*10*10^r.length≤(n*10+(c.toNat- 48))*10^r.length:=Nat.mul_le_mul_right _ om;rw[Nat.mul_comm (10^r.length) 10,←Nat.mul_assoc];omega
  ·cases h
theorem D5x(t:A6):C2q t=A7K t:=by
 unfold C2q A7K A2m
 match t with
 |[]=>simp[M3]
 |[c]=>
  simp only[M3,A0S];by_cases hd:T5 c=true
  ·simp[hd];split
   ·rfl
   ·rfl
  ·simp[hd]
 |c::d::r=>
  by_cases h0:c=48
  ·subst h0;rw[if_pos (.inr (.inr ⟨rfl,by simp⟩))];have:M3 (48::d::r) 0 0=none:=by
    simp only[M3];rw[if_neg (by decide),if_pos (by simp)]
   rw[this]
  ·by_cases hd:T5 c=true
   ·have hc:48≤c.toNat∧c.toNat≤57:=by simpa[T5]using hd
    have hn0:0<c.toNat- 48:=by
     have:c.toNat≠48:=fun h=>h0 (UInt8.toNat_inj.1 h);omega
    have e1:M3 (c::d::r) 0 0=M3 (d::r) 1 (c.toNat- 48):=by
     rw[M3,if_neg (by simp[hd])];simp
    have e2:A0S (c::d::r) 0=A0S (d::r) (c.toNat- 48):=by
     rw[A0S,if_pos hd];simp
    have key:=C1S (d::r) 1 (c.toNat- 48) om hn0 om;rw[e1];by_cases h5:5<(c::d::r).length
    ·rw[if_pos (.inr (.inl h5))];have hv:∀m,A0S (d::r) (c.toNat- 48)=some m→32767<m:=fun m hm=>by
      have h6:=C1m _ _ _ hm;have h7:10^5≤10^(d::r).length:=Nat.pow_le_pow_right (by decide) (by simp at h5⊢;omega);have h8:1*10^5≤(c.toNat- 48)*10^(d::r).length:=Nat.mul_le_mul hn0 h7;omega
     have hr:(match A0S (d::r) (c.toNat- 48)with|some m=>if m>32767 then none else some m|none=>(none:Option Nat))=none:=by
      cases hm:A0S (d::r) (c.toNat- 48)with
      |none=>rfl
      |some m=>simp only;rw[if_pos (hv m hm)]
     rw[hr]at key;cases hm:M3 (d::r) 1 (c.toNat- 48)with
     |none=>rfl
     |some m=>
      rw[hm]at key;simp only at key;split at key
      ·rename_i hb;simp only;rw[if_pos (.inr hb)]
      ·cases key
    ·rw[if_neg (by simp at h5⊢;exact⟨om,fun h=>absurd h h0⟩),e2];cases hm:M3 (d::r) 1 (c.toNat- 48)with
     |none=>
      rw[hm]at key;cases hv:A0S (d::r) (c.toNat- 48)with
      |none=>rfl
      |some m=>
       rw[hv]at key;simp only at key⊢;split at key
       ·rename_i hb;rw[if_pos hb]
       ·cases key
     |some m=>
      rw[hm]at key;cases hv:A0S (d::r) (c.toNat- 48)with
      |none=>
       rw[hv]at key;simp only at key⊢;split at key
       ·rename_i hb;rw[if_pos (.inr hb)]
       ·cases key
      |some m'=>
       rw[hv]at key;simp only at key⊢;split at key
       ·rename_i hb;split at key
        ·rename_i hb';rw[if_pos hb',if_pos (.inr hb)]
        ·cases key
       ·rename_i hb;split at key
        ·cases key
        ·rename_i hb';cases key;rw[if_neg hb',if_neg (by simp;omega)]
   ·have e1:M3 (c::d::r) 0 0=none:=by rw[M3,if_pos (by simp[hd])]
    rw[e1];simp only[A0S,hd];split<;>rfl
end Go.Inv
namespace Go.Inv
open Go.Sh
def VlI(t:A6)(w:World)(vs:List Value)(w':World):Prop:=∃k n:Nat,vs=[vi n,vi k]∧k≤t.length∧w'=w∧n<10^k∧A0S (t.drop k) n=A0S t 0
def VlM(t:A6)(vs:List Value)(_:World):Nat:=match vs with
 |[_,.int _ k]=>t.length- k.toNat
 |_=>0
theorem D0r{t:A6}(ht:t.length≤400)(w:World):Calls pr B0r #[.string (S t)] w (Is (vi (A7K t)) w):=by
 rw[←D5x];have neg:(t=[]∨5<t.length∨(t.head?=some 48∧1<t.length))→Is (vi (C2q t)) w (.returned (vi (-1))) w:=fun h=>by unfold C2q;rw[if_pos h];exact⟨rfl,rfl⟩
 have none_:¬(t=[]∨5<t.length∨(t.head?=some 48∧1<t.length))→A0S t 0=none→Is (vi (C2q t)) w (.returned (vi (-1))) w:=fun h h2=>by unfold C2q;rw[if_neg h,h2];exact⟨rfl,rfl⟩
 have some_:¬(t=[]∨5<t.length∨(t.head?=some 48∧1<t.length))→∀n,A0S t 0=some n→Is (vi (C2q t)) w (.returned (vi (if n>32767 then -1 else(n:Int)))) w:=fun h n h2=>by unfold C2q;rw[if_neg h,h2];exact⟨rfl,rfl⟩
 generalize hR:Is (vi (C2q t)) w=R at*;refine B6L _ _ _ ?_;unfold B3B
 match t,ht with
 |[],_=>
  simp only[↓Zz1,Zz39,show(([]:A6)==[])=true from rfl,yC];exact neg (.inl rfl)
 |c::r,ht=>
  have e1:((c::r:A6)==[])=false:=rfl;simp only[e1,↓Zz1,Zz39,yC];by_cases h5:5<(c::r).length
  ·have d5:decide ((((c::r).length:Nat):Int)>5)=true:=decide_eq_true om;simp only[d5,↓Zz1,Zz39,yC];exact neg (.inr (.inl h5))
  ·have d5:decide ((((c::r).length:Nat):Int)>5)=false:=decide_eq_false om;have b48:((((c.toNat:Nat):Int))==48)=(c==48):=bq c 48;simp only[d5,b48,↓Zz1,RV,T7,A1t,A0P,Y4,yC,O8,H7,A8m]
   have loop:¬((c::r:A6)=[]∨5<(c::r).length∨((c::r:A6).head?=some 48∧1<(c::r).length))→∃(I1:Yl) (m1:Yn),I1 [(vi 0),(vi 0)] w∧
    ∀(e1:Nat→Value) w1,I1 [e1 3,e1 4] w1→(fun w=>
    o pr (fun c w=>R (.panicked c) w) w (sB .len [9] 3 [.string (S (c::r))]) fun t24 w=>
    o pr (fun c w=>R (.panicked c) w) w (E9 .lss 3 (e1 4) t24 3) fun t25 w=>
    B6 t25 (o pr (fun c w=>R (.panicked c) w) w (R1 9 (.string (S (c::r))) (e1 4)) fun t30 w=>
    cl pr (fun c w=>R (.panicked c) w) w A1p #[t30] fun t31 w=>
    o pr (fun c w=>R (.panicked c) w) w (sUn .not 4 t31) fun t32 w=>
    B6 t32 (R (.returned (Value.int IntKind.i64 (-1))) w)
     (o pr (fun c w=>R (.panicked c) w) w (A8 .mul 3 (e1 3) (vi 10) 3) fun t34 w=>
    o pr (fun c w=>R (.panicked c) w) w (R1 9 (.string (S (c::r))) (e1 4)) fun t37 w=>
    o pr (fun c w=>R (.panicked c) w) w (A8 .sub 5 t37 (Value.int IntKind.u8 48) 5) fun t38 w=>
    o pr (fun c w=>R (.panicked c) w) w (A9c 5 3 t38) fun t39 w=>
    o pr (fun c w=>R (.panicked c) w) w (E9 .add 3 t34 t39 3) fun t40 w=>
    o pr (fun c w=>R (.panicked c) w) w (A8 .add 3 (e1 4) (vi 1) 3) fun t27 w=>
    I1 [t40,t27] w∧m1 [t40,t27] w<m1 [e1 3,e1 4] w1))
     (o pr (fun c w=>R (.panicked c) w) w (A8 .gtr 3 (e1 3) (vi 32767) 3) fun t42 w=>
    B6 t42 (R (.returned (Value.int IntKind.i64 (-1))) w)
     (R (.returned (e1 3)) w))) w1:=fun hn=>by
    refine⟨VlI (c::r) w,VlM (c::r),⟨0,0,rfl,om,rfl,by simp,rfl⟩,?_⟩;rintro e1 w1 ⟨k,n,he,hk,rfl,hb,hl⟩;have e3:e1 3=vi n:=by simpa using(List.cons.inj he).1
    have e4:e1 4=vi k:=by simpa using(List.cons.inj (List.cons.inj he).2).1
    have hk5:k≤5:=om;have hp:10^k≤10^5:=Nat.pow_le_pow_right (by decide) hk5;rw[e3,e4];simp only[↓Zz1,RV];refine S0 (p:=k<(c::r).length) (by simp only[decide_eq_decide];omega) (fun hlt=>?_) (fun hlt=>?_)
    ·obtain⟨d,hd⟩:∃d,(c::r)[k]?=some d:=⟨(c::r)[k],List.getElem?_eq_getElem hlt⟩;have hdrop:(c::r).drop k=d::(c::r).drop (k+1):=by
      rw[List.drop_eq_getElem_cons hlt];congr 1;exact(List.getElem?_eq_some_iff.1 hd).2
     have hdb:=d.toNat_lt;simp only[M5 hd,↓Zz1,RV];refine A9 (B5o d _) ?_;rintro _ w2 ⟨rfl,rfl⟩;simp only[C5,↓Zz1,RV];cases hdg:T5 d with
     |false=>
      simp only[yQ,O8];refine none_ hn ?_;rw[←hl,hdrop];simp only[A0S,hdg];rfl
     |true=>
      have h48:48≤d.toNat:=by simp[T5]at hdg;omega
      have hw1:IntKind.i64.wrap ((n:Int)*10)=((n*10:Nat):Int):=by rw[H2 om om];omega
      have hw2:IntKind.i64.wrap (((n*10:Nat):Int)+((d.toNat- 48:Nat):Int))=((n*10+(d.toNat- 48):Nat):Int):=by rw[H2 om om];omega
      have hw3:IntKind.i64.wrap ((k:Int)+1)=((k+1:Nat):Int):=by rw[H2 om om];omega
      simp only[yQ,H7,↓Zz1,RV,M5 hd,hw1,A9I h48 om,A5D (show d.toNat- 48≤1000000000 by omega),hw2,hw3];refine⟨⟨k+1,n*10+(d.toNat- 48),rfl,hlt,rfl,?_,?_⟩,by simp only[VlM,Int.toNat_natCast];omega⟩
      ·have hd9:d.toNat≤57:=by simp[T5]at hdg;omega
       rw[Nat.pow_succ];omega
      ·rw[←hl,hdrop];simp only[A0S,hdg,if_true]
    ·have hkk:k=(c::r).length:=om;have hv:A0S (c::r) 0=some n:=by rw[←hl,hkk,List.drop_length];rfl
     have:=some_ hn n hv;refine S0 (p:=n>32767) (by simp only[decide_eq_decide];omega) (fun h=>?_) (fun h=>?_)
     ·rw[if_pos h]at this;exact this
     ·rw[if_neg h]at this;exact this
   cases h48:(c==48)with
   |true=>
    have hc:c=48:=by simpa using h48
    by_cases h1:1<(c::r).length
    ·have d1:decide ((((c::r).length:Nat):Int)>1)=true:=decide_eq_true om;simp only[d1,↓Zz1,Zz39,yC];exact neg (.inr (.inr ⟨by rw[hc];rfl,h1⟩))
    ·have d1:decide ((((c::r).length:Nat):Int)>1)=false:=decide_eq_false om;simp only[d1,↓Zz1,Zz39,yC];have hl:=loop (by simp;simp at h5 h1;exact⟨h5,fun _=>by simpa using h1⟩);simp only[↓Zz1,RV]at hl;exact hl
   |false=>
    have hc:c≠48:=by simpa using h48
    simp only[↓Zz1,Zz39,yC];have hl:=loop (by simp;simp at h5;exact⟨h5,fun h=>absurd h hc⟩);simp only[↓Zz1,RV]at hl;exact hl
end Go.Inv
namespace Go.Inv
open Go.Sh
def RfP(src:A6)(B r p:Nat)(w:World)(v:Value)(s:RF):Ye:=fun e w'=>e= .returned v∧FrB B r p w w'∧T6 src B r p w' s
theorem A7D{src:A6}{B r p:Nat}{w:World}{s:RF}(h:T6 src B r p w s)(e:Nat):Calls pr I8 #[pt r 0,vi e] w (RfP src B r p w (.tuple #[]) (N2 e s)):=by
 refine A3i _ _ _ _ ?_;unfold A2a;have hr:=h.hr;simp only[↓Zz1,RV,GR,hr];refine S0 (p:=s.err=0) (by by_cases hh:s.err=0<;>simp[hh]) (fun h0=>?_) (fun h0=>?_)
 ·refine⟨rfl,(FrB.refl B r p w).putR h.rB h.ne,?_⟩;unfold N2;rw[if_pos h0];exact h.setR rfl rfl rfl rfl rfl
 ·refine⟨rfl,FrB.refl B r p w,?_⟩;unfold N2;rw[if_neg h0];exact h
theorem D4N(a:Int)(s:ByteArray)(w:World):(D0 147 [(0,vi a),(1,.string s)]).run pr w= .ok (.value (.agg #[vi a,.string s])) w:=kr
def RsI(src:A6)(w:World)(i0:Nat)(f:UInt8→Bool)(vs:List Value)(w':World):Prop:=∃k:Nat,vs=[vi k]∧k≤src.length∧w'=w∧A1D f src k=A1D f src i0
def RsM(src:A6)(vs:List Value)(_:World):Nat:=match vs with
 |[.int _ k]=>src.length- k.toNat
 |_=>0
def RsJ(src:A6)(w:World)(k:Nat)(vs:List Value)(w':World):Prop:=vs=[vi (k+U8 (src.drop k):Nat)]∧D9 w w'
theorem D5A(src:A6){k:Nat}(hk:k≤src.length):k+U8 (src.drop k)≤src.length:=by
 have:=B0S (src.drop k);rw[List.length_drop]at this;omega
theorem A0M{src:A6}{B r p:Nat}{w:World}{s:RF}(h:T6 src B r p w s)(hen:s.en≤src.length)(hs:src.length≤400):Calls pr F8 #[pt r 0] w (RfP src B r p w (.tuple #[]) (I6 src s)):=by
 refine A9r _ _ _ ?_;unfold A5L;have hr:=h.hr;simp only[↓Zz1,RV,GR,hr];refine⟨RsI src w s.en A7j,RsM src,⟨s.en,rfl,hen,rfl,rfl⟩,?_⟩;rintro e1 w1 ⟨k,he,hk,rfl,hrun⟩;have e2:e1 2=vi k:=by simpa using he
 have hwk:IntKind.i64.wrap ((k:Int)+1)=((k+1:Nat):Int):=by rw[H2 om om];omega
 rw[e2]
 -- behind the token
 have fin:V6 src s.en=k→∀w',D9 w1 w'→(w'.heap[r]?=some (.cells #[.string (S src),vi s.en,vi s.at_,.string (S s.txt),pt p 0,vi s.op,vi s.err] C0s))∧
  X7 src (k:Int) ((k+U8 (src.drop k):Nat):Int)=some (.string (S ((src.take (k+U8 (src.drop k))).drop k)))∧
  RfP src B r p w1 (.tuple #[]) (I6 src s) (.returned (.tuple #[])) (put (put (put w' r 2 (vi k)) r 3 (.string (S ((src.take (k+U8 (src.drop k))).drop k)))) r 1 (vi (k+U8 (src.drop k):Nat)))∧
  R2 ((put (put w' r 2 (vi k)) r 3 (.string (S ((src.take (k+U8 (src.drop k))).drop k)))).heap[r]?) 1=true:=fun hsk w' ho=>by
  have h2:=h.old ho;have hle:=D5A src hk;have s1:=h2.setR (s':={s with at_:=k}) (i:=2) (v:=vi k) rfl rfl rfl rfl rfl;have s2:=s1.setR (s':={s with at_:=k,txt:=(src.take (k+U8 (src.drop k))).drop k}) (i:=3) (v:=.string (S ((src.take (k+U8 (src.drop k))).drop k))) rfl rfl rfl rfl rfl;have s3:=s2.setR (s':={s with at_:=k,txt:=(src.take (k+U8 (src.drop k))).drop k,en:=k+U8 (src.drop k)}) (i:=1) (v:=vi (k+U8 (src.drop k):Nat)) rfl rfl rfl rfl rfl;refine⟨h2.hr,?_,⟨rfl,(((FrB.of_old ho h.wB h.pl).putR h.rB h.ne).putR h.rB h.ne).putR h.rB h.ne,?_⟩,by rw[s2.hr];rfl⟩
  ·unfold X7;rw[if_pos om];unfold B3Q;rw[Int.toNat_natCast,Int.toNat_natCast]
  ·unfold I6;rw[hsk];exact s3
 by_cases hlt:k<src.length
 ·obtain⟨c,hc⟩:∃c,src[k]?=some c:=⟨src[k],by simp[hlt]⟩;have hd:decide ((k:Int)<(src.length:Int))=true:=by simp[hlt]
  simp only[hd,↓Zz1,RV,GR,CG,yC,hr,M5 hc,bqs];cases h32:c==32 with
  |true=>
   simp only[↓Zz1,Zz8,yC,hr,hwk];exact⟨⟨k+1,rfl,om,rfl,by rw[←A2F hc (by rw[A5C,h32];rfl)];exact hrun⟩,by simp[RsM];omega⟩
  |false=>
   simp only[↓Zz1,RV,GR,CG,yC,hr,M5 hc,bqs];cases h10:c==10 with
   |true=>
    simp only[↓Zz1,Zz8,yC,hr,hwk];exact⟨⟨k+1,rfl,om,rfl,by rw[←A2F hc (by rw[A5C,h10];simp)];exact hrun⟩,by simp[RsM];omega⟩
   |false=>
    have hk':V6 src s.en=k:=by rw[B3w,←hrun];exact A5X hc (by rw[A5C,h32,h10];rfl)
    simp only[↓Zz1,Zz8,yC,hr];refine⟨RsJ src w1 k,?_,?_⟩
    ·rintro e4 w' ⟨hv,ho⟩;have e43:e4 3=vi (k+U8 (src.drop k):Nat):=by simpa using hv
     obtain⟨hr2,hcut,hfin,hok⟩:=fin hk' w' ho;rw[e43];simp only[hr2,hcut,hok,↓D5 (D4N _ _ _),↓Zz1,RV,GR,G3,yL,Bool.and_self,decide_true,M1,putL];exact hfin
    try simp only[hd,↓Zz1,Zz8,yC,hr,M5 hc]
    refine A9 (B9r c _) ?_;rintro _ w4 ⟨rfl,rfl⟩;simp only[C5];cases hl:A0I c with
    |true=>
     simp only[CG,yC];refine⟨RsI src w4 k A0I,RsM src,⟨k,rfl,om,rfl,rfl⟩,?_⟩;rintro e3 w5 ⟨j,he,hj,rfl,hru⟩;have e33:e3 3=vi j:=by simpa using he
     have hwj:IntKind.i64.wrap ((j:Int)+1)=((j+1:Nat):Int):=by rw[H2 om om];omega
     rw[e33];by_cases hjl:j<src.length
     ·obtain⟨d,hdd⟩:∃d,src[j]?=some d:=⟨src[j],by simp[hjl]⟩;have hdj:decide ((j:Int)<(src.length:Int))=true:=by simp[hjl]
      simp only[hdj,↓Zz1,Zz8,yC,hr,M5 hdd];refine A9 (B9r d _) ?_;rintro _ w6 ⟨rfl,rfl⟩;simp only[C5];cases hld:A0I d with
      |true=>
       simp only[↓Zz1,Zz8,yC,hr,hwj];exact⟨⟨j+1,rfl,om,rfl,by rw[←A2F hdd hld];exact hru⟩,by simp[RsM];omega⟩
      |false=>
       simp only[↓Zz1,Zz8,yC,hr];refine⟨?_,D9.refl _⟩;rw[A7a hc hl,←hru,A5X hdd hld]
     ·have hdj:decide ((j:Int)<(src.length:Int))=false:=by simp;omega
      simp only[hdj,↓Zz1,Zz8,yC,hr];refine⟨?_,D9.refl _⟩;rw[A7a hc hl,←hru,A7E om]
    |false=>
     simp only[CG,yC,↓Zz1,RV,GR,hr,M5 hc];refine A9 (B5o c _) ?_;rintro _ w4' ⟨rfl,rfl⟩;simp only[C5];cases hdg:T5 c with
     |true=>
      simp only[CG,yC];refine⟨RsI src w4' k T5,RsM src,⟨k,rfl,om,rfl,rfl⟩,?_⟩;rintro e3 w5 ⟨j,he,hj,rfl,hru⟩;have e33:e3 3=vi j:=by simpa using he
      have hwj:IntKind.i64.wrap ((j:Int)+1)=((j+1:Nat):Int):=by rw[H2 om om];omega
      rw[e33];by_cases hjl:j<src.length
      ·obtain⟨d,hdd⟩:∃d,src[j]?=some d:=⟨src[j],by simp[hjl]⟩;have hdj:decide ((j:Int)<(src.length:Int))=true:=by simp[hjl]
       simp only[hdj,↓Zz1,Zz8,yC,hr,M5 hdd];refine A9 (B5o d _) ?_;rintro _ w6 ⟨rfl,rfl⟩;simp only[C5];cases hld:T5 d with
       |true=>
        simp only[↓Zz1,Zz8,yC,hr,hwj];exact⟨⟨j+1,rfl,om,rfl,by rw[←A2F hdd hld];exact hru⟩,by simp[RsM];omega⟩
       |false=>
        simp only[↓Zz1,Zz8,yC,hr];refine⟨?_,D9.refl _⟩;rw[A8k hc hl hdg,←hru,A5X hdd hld]
      ·have hdj:decide ((j:Int)<(src.length:Int))=false:=by simp;omega
       simp only[hdj,↓Zz1,Zz8,yC,hr];refine⟨?_,D9.refl _⟩;rw[A8k hc hl hdg,←hru,A7E om]
     |false=>
      simp only[CG,yC,↓Zz1,RV,GR,hr];refine A9 (D2m hc hs _) ?_;rintro _ w5 ⟨rfl,ho5⟩;obtain⟨ht,hdrop⟩:=B5Q hc hl hdg;have hsl:O1 (src.drop k)≤400:=by
       have h1:=B2u (src.drop k);rw[List.length_drop]at h1;omega
      have hw:IntKind.i64.wrap ((k:Int)+(O1 (src.drop k):Nat))=((k+O1 (src.drop k):Nat):Int):=by
       rw[H2 om om];omega
      simp only[C5,CG,yC,↓Zz1,RV,hw];refine⟨?_,ho5⟩;rw[ht,hdrop]
 ·have hk':V6 src s.en=k:=by rw[B3w,←hrun];exact A7E om
  have hd:decide ((k:Int)<(src.length:Int))=false:=by simp;omega
  simp only[hd,↓Zz1,Zz8,yC,hr];refine⟨RsJ src w1 k,?_,?_⟩
  ·rintro e4 w' ⟨hv,ho⟩;have e43:e4 3=vi (k+U8 (src.drop k):Nat):=by simpa using hv
   obtain⟨hr2,hcut,hfin,hok⟩:=fin hk' w' ho;rw[e43];simp only[hr2,hcut,hok,↓D5 (D4N _ _ _),↓Zz1,RV,GR,G3,yL,Bool.and_self,decide_true,M1,putL];exact hfin
  try simp only[hd,↓Zz1,Zz8,yC,hr]
  refine⟨?_,D9.refl _⟩;rw[B8r om];rfl
end Go.Inv
namespace Go.Inv
open Go.Sh
theorem bSS(a b:A6):(a !=b)=!(a==b):=rfl
def Zz25:=yA @RV<|yA @CG<|@bSS
theorem A7F{src t:A6}{B r p:Nat}{w:World}{s:RF}(h:T6 src B r p w s)(hen:s.en≤src.length)(hs:src.length≤400):Calls pr Q1 #[pt r 0,.string (S t)] w (RfP src B r p w (.tuple #[]) (M4 src t s)):=by
 refine A9q _ _ _ _ ?_;unfold A5K;have hr:=h.hr;simp only[↓Zz1,RV,GR,Nat.reduceAdd,hr];refine S0 (p:=s.err≠0) (by by_cases hh:s.err=0<;>simp[hh]) (fun h0=>?_) (fun h0=>?_)
 ·rw[A4u h0];exact⟨rfl,FrB.refl B r p w,h⟩
 ·have h0:s.err=0:=om
  try simp only[↓Zz1,RV,GR,Nat.reduceAdd,hr]
  refine S0 (p:=s.txt≠t) (by by_cases hh:s.txt=t<;>simp[hh]) (fun h1=>?_) (fun h1=>?_)
  ·refine A9 (A7D h 2) ?_;rintro _ w2 ⟨rfl,hf,h2⟩;simp only[C5];rw[B7p h0 h1];exact⟨rfl,hf,h2⟩
  ·refine A9 (A0M h hen hs) ?_;rintro _ w2 ⟨rfl,hf,h2⟩;simp only[C5];rw[B3q h0 (by simpa using h1)];exact⟨rfl,hf,h2⟩
theorem D7r{t:A6}{s:RF}:(Q5 t s).en=s.en∧(Q5 t s).txt=s.txt:=by
 unfold Q5 N2;split
 ·split<;>exact⟨rfl,rfl⟩
 ·exact⟨rfl,rfl⟩
def OpJ(src:A6)(B r p:Nat)(w0:World)(s:RF)(vs:List Value)(w:World):Prop:=FrB B r p w0 w∧T6 src B r p w s
theorem B9p{src t:A6}{B r p:Nat}{w:World}{s:RF}(h:T6 src B r p w s)(hen:s.en≤src.length)(hs:src.length≤400)(ho: -1000≤s.op∧s.op≤1000):Calls pr A0l #[pt r 0,.string (S t)] w (RfP src B r p w (.tuple #[]) (W0 src t s)):=by
 refine A9t _ _ _ _ ?_;unfold A5O;have hr:=h.hr;refine⟨OpJ src B r p w (Q5 t s),?_,?_⟩
 ·rintro e1 w1 ⟨hf,h1⟩;refine A9 (A7F h1 (by rw[D7r.1];exact hen) hs) ?_;rintro _ w2 ⟨rfl,hf2,h2⟩;have hr2:=h2.hr;have hop:(M4 src t (Q5 t s)).op=s.op:=by rw[A1c,B4p]
  have hwr:IntKind.i64.wrap ((M4 src t (Q5 t s)).op+1)=(M4 src t (Q5 t s)).op+1:=by rw[hop];exact H2 om om
  simp only[C5,↓Zz1,RV,GR,Nat.reduceAdd,hr2,hwr];exact⟨rfl,(hf.trans hf2).putR h2.rB h2.ne,h2.setR rfl rfl rfl rfl rfl⟩
 ·have no:¬(s.err=0∧s.txt=t∧12≤s.op)→OpJ src B r p w (Q5 t s) [] w:=fun hn=>by
   unfold Q5;rw[if_neg hn];exact⟨FrB.refl B r p w,h⟩
  have yes:(s.err=0∧s.txt=t∧12≤s.op)→cl pr (fun c w1=>RfP src B r p w (.tuple #[]) (W0 src t s) (.panicked c) w1) w I8 #[pt r 0,vi 3] fun _ w1=>OpJ src B r p w (Q5 t s) [] w1:=fun hy=>by
   refine A9 (A7D h 3) ?_;rintro _ w2 ⟨rfl,hf,h2⟩;simp only[C5];unfold Q5;rw[if_pos hy];exact⟨hf,h2⟩
  simp only[↓Zz1,RV,GR,Nat.reduceAdd,hr];by_cases h0:s.err=0
  ·have z0:((s.err:Int)==0)=true:=by simp[h0]
   simp only[z0,↓Zz1,Zz8,Nat.reduceAdd,yC,hr];by_cases h1:s.txt=t
   ·have z1:(s.txt==t)=true:=by simp[h1]
    try simp only[z1,↓Zz1,Zz8,Nat.reduceAdd,yC,hr]
    refine S0 (p:=12≤s.op) rfl (fun h2=>?_) (fun h2=>?_)
    ·exact yes ⟨h0,h1,h2⟩
    ·exact no (fun hh=>h2 hh.2.2)
   ·have z1:(s.txt==t)=false:=by simp[h1]
    try simp only[z1,↓Zz1,Zz8,Nat.reduceAdd,yC,hr]
    exact no (fun hh=>h1 hh.2.1)
  ·have z0:((s.err:Int)==0)=false:=by simp;omega
   simp only[z0,↓Zz1,Zz8,Nat.reduceAdd,yC,hr];exact no (fun hh=>h0 hh.1)
theorem C4k{src t:A6}{B r p:Nat}{w:World}{s:RF}(h:T6 src B r p w s)(hen:s.en≤src.length)(hs:src.length≤400)(ho: -1000≤s.op∧s.op≤1000):Calls pr A1F #[pt r 0,.string (S t)] w (RfP src B r p w (.tuple #[]) (A4v src t s)):=by
 refine A9s _ _ _ _ ?_;unfold A5N;refine A9 (A7F h hen hs) ?_;rintro _ w2 ⟨rfl,hf2,h2⟩;have hr2:=h2.hr;have hop:(M4 src t s).op=s.op:=A1c _ _ _;have hwr:IntKind.i64.wrap ((M4 src t s).op- 1)=(M4 src t s).op- 1:=by rw[hop];exact H2 om om
 simp only[C5,↓Zz1,RV,GR,Nat.reduceAdd,hr2,hwr];exact⟨rfl,hf2.putR h2.rB h2.ne,h2.setR rfl rfl rfl rfl rfl⟩
theorem E4n:∃by_,C7J pr 90 A4N 10 by_∧by_≤1000:=⟨88,D1t kr,by decide⟩
theorem E2T(x:Nd)(w:World):(F2 90 1 [(0,x.v)]).run pr w= .ok (.value (.slice (some ⟨w.heap.size,0,none⟩) 1 1)) (w.alloc (.cells #[vi x.kind,vi x.a,vi x.b,vi x.c,vi x.n,vi x.next,.string (S x.sign),vi x.site,vi x.point,.bool x.els] A4N)):=kr
theorem P5.blk{B:Nat}{w:World}{v:Value}{ns:List Nd}(g:P5 B w v ns){k:Nat}(hk:v.ownBlock=some k):B≤k∧∃cs f,w.heap[k]?=some (.cells cs A4N f):=by
 rcases g.2 with⟨rfl,_⟩|⟨nb,cap,c,rfl,h2,h3,_⟩
 ·cases hk
 ·cases hk;exact⟨h2,_,_,h3⟩
theorem P5.grown_keep{B:Nat}{w w':World}{v:Value}{ns:List Nd}(g:P5 B w v ns)(hg:w.grownBy w' v.ownBlock){i:Nat}{x:Obj}(hi:w.heap[i]?=some x)(hx:∀cs f,x≠ .cells cs A4N f):w'.heap[i]?=some x:=by
 rw[hg.block i (B9 hi) (fun e=>by
  obtain⟨_,cs',f',h6⟩:=g.blk e.symm;rw[hi]at h6;cases h6;exact hx _ _ rfl)]
 exact hi
theorem D6Z(ns:List Nd)(x:Nd):(ns++[x]).flatMap Nd.l=ns.flatMap Nd.l++[vi x.kind,vi x.a,vi x.b,vi x.c,vi x.n,vi x.next,.string (S x.sign),vi x.site,vi x.point,.bool x.els]:=by
 simp[Nd.l]
theorem A7G{src:A6}{B r p:Nat}{w:World}{s:RF}(h:T6 src B r p w s)(x:Nd)(hn:s.ns.length≤1000000):Calls pr Q2 #[pt r 0,x.v] w (RfP src B r p w (vi (A3P x s).2) (A3P x s).1):=by
 refine A9u _ _ _ _ ?_;unfold A5P;have ho1:D9 w (w.alloc (.cells x.v.cells 151)):=(D9.refl w).alloc _;have b1:I0 ((w.alloc (.cells x.v.cells 151)).heap[w.heap.size]?) 0 10=some x.v:=by
  rw[A5];rfl
 have h1:=h.old ho1;simp only[↓Zz1,RV];generalize w.alloc (.cells x.v.cells 151)=w1 at*;obtain⟨nv,kv,g1,g2,g3⟩:=h1.pg;have hr1:=h1.hr;have ho2:D9 (dr w1) ((dr w1).alloc (.cells #[vi x.kind,vi x.a,vi x.b,vi x.c,vi x.n,vi x.next,.string (S x.sign),vi x.site,vi x.point,.bool x.els] A4N)):=(D9.refl _).alloc _;have b2:((dr w1).alloc (.cells #[vi x.kind,vi x.a,vi x.b,vi x.c,vi x.n,vi x.next,.string (S x.sign),vi x.site,vi x.point,.bool x.els] A4N)).heap[(dr w1).heap.size]?=some (.cells #[vi x.kind,vi x.a,vi x.b,vi x.c,vi x.n,vi x.next,.string (S x.sign),vi x.site,vi x.point,.bool x.els] A4N):=A5 _;have h2:=h1.dr.old ho2;simp only[↓Zz1,RV,GR,Nat.reduceAdd,hr1,g1,b1,↓D5 (E2T x _)];have hr2:=h2.hr;obtain⟨nv2,kv2,e1,e2,e3⟩:=h2.pg;have e1':=ho2.heap (show(dr w1).heap[p]?=_ from g1);rw[e1']at e1;obtain⟨rfl,rfl⟩:nv=nv2∧kv=kv2:=by
  injection e1 with e1;injection e1 with e1;simpa using e1
 generalize(dr w1).alloc (.cells #[vi x.kind,vi x.a,vi x.b,vi x.c,vi x.n,vi x.next,.string (S x.sign),vi x.site,vi x.point,.bool x.els] A4N)=w2 at*;simp only[↓Zz1,RV,GR,Nat.reduceAdd,hr2,e1'];obtain⟨by_,hsl,hby⟩:=E4n;refine C6M (us:=[vi x.kind,vi x.a,vi x.b,vi x.c,vi x.n,vi x.next,.string (S x.sign),vi x.site,vi x.point,.bool x.els]) hsl om e2 b2 rfl (by simp[Value.oneCell']) (by simp only[maxLen];omega) (by
  have:=Nat.mul_le_mul (show s.ns.length+1≤1000001 by omega) hby;omega) h2.wB ?_
 intro v' w4 hown hg hblk;have hr4:w4.heap[r]?=_:=P5.grown_keep e2 hg hr2 (fun _ _ e=>by injection e with _ e;exact absurd e (by decide));have hp4:w4.heap[p]?=_:=P5.grown_keep e2 hg e1' (fun _ _ e=>by injection e with _ e;exact absurd e (by decide));have hown1:G3 v'=true:=by rcases hown.2 with⟨rfl,_⟩|⟨nb,cap,c,rfl,_⟩<;>rfl
 have hlen:∃a c,v'= .slice a (s.ns.length+1) c:=by
  rcases hown.2 with⟨rfl,h0⟩|⟨nb,cap,c,rfl,_⟩
  ·exact absurd h0 om
  ·exact⟨_,_,rfl⟩
 obtain⟨a',c',hv'⟩:=hlen;have hw:IntKind.i64.wrap (((s.ns.length+1:Nat):Int)- 1)=((s.ns.length:Nat):Int):=by rw[H2 om om];omega
 have hokp:R2 (w4.heap[p]?) 0=true:=by rw[hp4];rfl
 have hB:FrB B r p w (put w4 p 0 v'):=((FrB.of_old ho1 h.wB h.pl).trans ((FrB.refl B r p w1).dr.trans (FrB.of_old ho2 h1.wB h1.pl))).trans (FrB.grow0 h2.pB h2.wB (fun k hk=>(P5.blk e2 hk).1) e1' hg hp4 hblk);have fin:T6 src B r p (put w4 p 0 v') (A3P x s).1:=by
  have hne:r≠p:=h2.ne;refine⟨by rw[A7 hne];exact hr4,⟨v',kv,by rw[C6,hp4,M6];rfl,?_,?_⟩,h2.rB,h2.pB,by rw[G2];have:=hg.size;have:=h2.wB;omega⟩
  ·unfold P5;show World.ownsRow _ B A4N 10 v' (s.ns++[x]).length ((s.ns++[x]).flatMap Nd.l);rw[D6Z,List.length_append];refine O5 hown fun c cs hcs=>?_;have:c≠p:=fun e=>by rw[e,hp4]at hcs;injection hcs with hh;injection hh with _ hh;exact absurd hh (by decide)
   rw[A7 this];exact hcs
  ·refine O5 e3 fun c cs hcs=>?_;have h4:=P5.grown_keep e2 hg hcs (fun _ _ e=>by injection e with _ e;exact absurd e (by decide));have:c≠p:=fun e=>by rw[e,hp4]at h4;injection h4 with hh;injection hh with _ hh;exact absurd hh (by decide)
   rw[A7 this];exact h4
 subst hv';simp only[↓Zz1,RV,GR,Nat.reduceAdd,hr4,hp4,hokp,hown1,hw];exact⟨rfl,hB,fin⟩
end Go.Inv
namespace Go.Inv
open Go.Sh
theorem D8w(a:Int)(w:World):(D0 151 [(0,vi 3),(1,vi a)]).run pr w= .ok (.value {nd0 with kind:=3,a:=a}.v) w:=kr
theorem E3f(n:Int)(w:World):(D0 151 [(0,vi 1),(4,vi n)]).run pr w= .ok (.value {nd0 with kind:=1,n:=n}.v) w:=kr
theorem E3e(n:Int)(w:World):(D0 151 [(0,vi 2),(4,vi n)]).run pr w= .ok (.value {nd0 with kind:=2,n:=n}.v) w:=kr
theorem E3d(a b site:Int)(s:ByteArray)(w:World):(D0 151 [(0,vi 4),(1,vi a),(2,vi b),(6,.string s),(7,vi site)]).run pr w= .ok (.value (.agg #[vi 4,vi a,vi b,vi 0,vi 0,vi 0,.string s,vi site,vi 0,.bool false])) w:=kr
def C1k(src:A6)(f:Nat)(j:RJ)(n:Nat):Prop:=∀(B r p:Nat) (s s':RF) (k:Int) (w:World),RfW src 0 s→T6 src B r p w s→rex src n j s=some (s',k)→Calls pr f #[pt r 0] w (RfP src B r p w (vi k) s')
theorem RfW.small{src:A6}{d:Nat}{s:RF}(h:RfW src d s)(hs:src.length≤400):s.ns.length≤1000∧s.nums.length≤1000∧s.at_≤400:=by
 have h1:=h.nb;have h2:=h.mb;have h3:=h.ae;have h4:=h.el;have:(if s.err=0 then 0 else 1)≤1:=by split<;>omega
 omega
theorem RfW.txs{src:A6}{d:Nat}{s:RF}(h:RfW src d s)(hs:src.length≤400):s.txt.length≤400:=by
 have:=h.txl;have:=h.el;omega
theorem C8B(t:A6):B9D t=A7K t:=rfl
theorem C3W{t:A6}(h:(P4 t).isSome=true):∃c:UInt8,t=[c]∧97≤c.toNat∧c.toNat≤104∧B8n t=((c.toNat- 97:Nat):Int):=by
 match t,h with
 |[c],h=>
  unfold P4 at h;by_cases hc:97≤c.toNat∧c.toNat≤104
  ·exact⟨c,rfl,hc.1,hc.2,by unfold B8n P4;simp only[if_pos hc]⟩
  ·have h':(if 97≤c.toNat∧c.toNat≤104 then some (c.toNat- 97)else none).isSome=true:=h;rw[if_neg hc]at h';cases h'
theorem D0s{src:A6}(hs:src.length≤400)(n:Nat)(ih1:C1k src L7 .un n)(ih2:C1k src R6 .su n):C1k src L7 .un (n+1):=by
 intro B r p s s' k w hw h hx;refine A8q _ _ _ ?_;unfold A5a;have hr:=h.hr;simp only[↓Zz1,RV,GR,Nat.reduceAdd,hr];refine A9 (D0r (hw.txs hs) w) ?_;rintro _ w1 ⟨rfl,rfl⟩;simp only[C5];refine A9 (B2D s.txt w1) ?_;rintro _ w2 ⟨rfl,rfl⟩;simp only[C5,↓Zz1,RV,GR,Nat.reduceAdd,hr];simp only[rex]at hx;refine S0 (p:=s.err≠0) (by by_cases hh:s.err=0<;>simp[hh]) (fun h0=>?_) (fun h0=>?_)
 ·rw[if_pos h0]at hx;cases hx;exact⟨rfl,FrB.refl B r p w2,h⟩
 rw[if_neg h0]at hx;have h0:s.err=0:=om;have hop:=hw.o2 h0;have hop0:=hw.o0;refine S0 (p:=s.txt=[45]) (by by_cases hh:s.txt=[45]<;>simp[hh]) (fun h1=>?_) (fun h1=>?_)
 ·rw[if_pos h1]at hx;refine A9 (B9p (t:=[45]) h hw.el hs om) ?_;rintro _ w3 ⟨rfl,hf3,h3⟩;simp only[C5];have hw3:=(B5s hw (t:=[45]) (by decide) hop);cases hx1:rex src n .un (W0 src [45] s)with
  |none=>rw[hx1]at hx;cases hx
  |some sa=>
   obtain⟨s1,a⟩:=sa;rw[hx1]at hx;simp only at hx;obtain⟨g1,g2,g3⟩:=A2Q n _ _ _ _ 1 (hw3.2 h0) hx1;rw[B1k]at g2;refine A9 (ih1 B r p _ _ _ w3 hw3.1 h3 hx1) ?_;rintro _ w4 ⟨rfl,hf4,h4⟩;have hr4:=h4.hr;have hwr:IntKind.i64.wrap (s1.op- 1)=s1.op- 1:=H2 om om;have hb:=D8w a;simp only[C5,↓Zz1,RV,GR,Nat.reduceAdd,hr4,hwr,↓D5 (D8w a _)];have h5:T6 src B r p (put w4 r 5 (vi (s1.op- 1))) {s1 with op:=s1.op- 1}:=h4.setR rfl rfl rfl rfl rfl;refine A9 (A7G h5 {nd0 with kind:=3,a:=a} (by have:=(g1.small hs).1;show s1.ns.length≤_;omega)) ?_;rintro _ w6 ⟨rfl,hf6,h6⟩;simp only[C5];cases hx;exact⟨rfl,((hf3.trans hf4).trans ((FrB.refl B r p w4).putR h4.rB h4.ne)).trans hf6,h6⟩
 rw[if_neg h1]at hx
 try simp only[↓Zz1,RV]
 refine S0 (p:=s.txt=[40]) (by by_cases hh:s.txt=[40]<;>simp[hh]) (fun h2=>?_) (fun h2=>?_)
 ·rw[if_pos h2]at hx;refine A9 (B9p (t:=[40]) h hw.el hs om) ?_;rintro _ w3 ⟨rfl,hf3,h3⟩;simp only[C5];have hw3:=(B5s hw (t:=[40]) (by decide) hop);cases hx1:rex src n .su (W0 src [40] s)with
  |none=>rw[hx1]at hx;cases hx
  |some sa=>
   obtain⟨s1,a⟩:=sa;rw[hx1]at hx;simp only at hx;obtain⟨g1,g2,g3⟩:=A2Q n _ _ _ _ 0 hw3.1 hx1;rw[B1k]at g2;refine A9 (ih2 B r p _ _ _ w3 hw3.1 h3 hx1) ?_;rintro _ w4 ⟨rfl,hf4,h4⟩;simp only[C5];refine A9 (C4k (t:=[41]) h4 g1.el hs om) ?_;rintro _ w5 ⟨rfl,hf5,h5⟩;simp only[C5];cases hx;exact⟨rfl,(hf3.trans hf4).trans hf5,h5⟩
 rw[if_neg h2]at hx
 try simp only[↓Zz1,RV]
 rw[C8B]at hx;refine S0 (p:=0≤A7K s.txt) (by simp) (fun h3=>?_) (fun h3=>?_)
 ·rw[if_pos h3]at hx;have hne:s.txt≠[]:=C8A (by rw[C8B];exact h3);refine A9 (A0M h hw.el hs) ?_;rintro _ w3 ⟨rfl,hf3,hA3⟩;have hw3:=hw.step h0 hne;obtain⟨nv,kv,g1,g2,g3⟩:=hA3.pg;have hr3:=hA3.hr;obtain⟨num,hnum⟩:∃m:Nat,A7K s.txt=m:=⟨(A7K s.txt).toNat,om⟩;rw[hnum]at hx⊢;have hnn:((num:Int)).toNat=num:=rfl;have ho4:D9 (dr w3) ((dr w3).alloc (.cells #[vi num] A0L)):=(D9.refl _).alloc _;have b4:((dr w3).alloc (.cells #[vi num] A0L)).heap[(dr w3).heap.size]?=some (.cells #[vi num] A0L):=A5 _;have h4:=hA3.dr.old ho4;simp only[C5,↓C4L _,↓Zz1,RV,GR,Nat.reduceAdd,hr3,g1];have hr4:=h4.hr;have e1:=ho4.heap (show(dr w3).heap[p]?=_ from g1);have e2:P5 B ((dr w3).alloc (.cells #[vi num] A0L)) nv s.ns:=O5 g2 fun _ _ h=>ho4.heap (show(dr w3).heap[_]?=_ from h);have e3:A0B B ((dr w3).alloc (.cells #[vi num] A0L)) kv s.nums:=O5 g3 fun _ _ h=>ho4.heap (show(dr w3).heap[_]?=_ from h);generalize(dr w3).alloc (.cells #[vi num] A0L)=w4 at*;simp only[↓Zz1,RV,GR,Nat.reduceAdd,hr4,e1];refine C1R E1q e3 b4 rfl (by have:=(hw3.small hs).2.1;have:s.nums.length≤1000:=this;omega) h4.wB ?_;intro v' w5 hown hg hblk;have hr5:=grown_keep e3 hg hr4 (by decide);have hp5:=grown_keep e3 hg e1 (by decide);have hown1:G3 v'=true:=by rcases hown.2 with⟨rfl,_⟩|⟨nb,cap,c,rfl,_⟩<;>rfl
  have hokp:R2 (w5.heap[p]?) 4=true:=by rw[hp5];rfl
  have hf5:FrB B r p w4 (put w5 p 4 v'):=FrB.grow4 h4.pB h4.wB (fun k hk=>(B3S e3 hk).1) e1 hg hp5 hblk;have fin:T6 src B r p (put w5 p 4 v') {I6 src s with nums:=s.nums++[num]}:=by
   have hne:r≠p:=h4.ne;refine⟨by rw[A7 hne];exact hr5,⟨nv,v',by rw[C6,hp5,M6];rfl,?_,?_⟩,h4.rB,h4.pB,by rw[G2];have:=hg.size;have:=h4.wB;omega⟩
   ·refine O5 e2 fun c cs hcs=>?_;have h6:=grown_keep e3 hg hcs (by decide);have:c≠p:=fun e=>by rw[e,hp5]at h6;injection h6 with hh;injection hh with _ hh;exact absurd hh (by decide)
    rw[A7 this];exact h6
   ·unfold A0B;show World.ownsRow _ B A0L 1 v' (s.nums++[num]).length ((s.nums++[num]).map fun n:Nat=>vi n);rw[List.length_append,List.map_append];refine O5 hown fun c cs hcs=>?_;have:c≠p:=fun e=>by rw[e,hp5]at hcs;injection hcs with hh;injection hh with _ hh;exact absurd hh (by decide)
    rw[A7 this];exact hcs
  simp only[↓Zz1,RV,GR,Nat.reduceAdd,hr5,hp5,hokp,hown1,↓D5 (E3f _ _)];refine A9 (A7G fin {nd0 with kind:=1,n:=(num:Int)} (by have:=(hw3.small hs).1;have:s.ns.length≤1000:=this;show s.ns.length≤_;omega)) ?_;rintro _ w6 ⟨rfl,hf6,hA6⟩;simp only[C5];cases hx;exact⟨rfl,(((hf3.dr).trans (FrB.of_old ho4 hA3.wB hA3.pl)).trans hf5).trans hf6,hA6⟩
 rw[if_neg h3]at hx
 try simp only[↓Zz1,RV]
 cases h4:(P4 s.txt).isSome with
 |true=>
  rw[if_pos h4]at hx;obtain⟨c,hc,hc1,hc2,hc3⟩:=C3W h4;simp only[CG];refine A9 (A0M h hw.el hs) ?_;rintro _ w3 ⟨rfl,hf3,hA3⟩;have hw3:=hw.step h0 (C7K h4);have hsub:IntKind.u8.wrap ((c.toNat:Int)- 97)=((c.toNat- 97:Nat):Int):=B0R hc1 om;have hwr:IntKind.i64.wrap ((c.toNat- 97:Nat):Int)=((c.toNat- 97:Nat):Int):=H2 om om;rw[hc];simp only[C5,↓Zz1,RV,GR,Nat.reduceAdd,A8m,hsub,hwr,↓D5 (E3e _ _)];rw[hc3]at hx;refine A9 (A7G hA3 {nd0 with kind:=2,n:=((c.toNat- 97:Nat):Int)} (by have:=(hw3.small hs).1;omega)) ?_;rintro _ w4 ⟨rfl,hf4,hA4⟩;simp only[C5];cases hx;exact⟨rfl,hf3.trans hf4,hA4⟩
 |false=>
  rw[if_neg (by simp[h4])]at hx;simp only[CG];refine A9 (A7D h 2) ?_;rintro _ w3 ⟨rfl,hf3,hA3⟩;simp only[C5];cases hx;exact⟨rfl,hf3,hA3⟩
end Go.Inv
namespace Go.Inv
open Go.Sh
def D2C(w:World)(r:Nat):Nat:=match w.heap[r]? with
 |some (.cells c _ _)=>match c[6]? with
  |some (Value.int _ n)=>n.toNat
  |_=>0
 |_=>0
def D2B(w:World)(r:Nat):Nat:=match w.heap[r]? with
 |some (.cells c _ _)=>match c[2]? with
  |some (Value.int _ n)=>n.toNat
  |_=>0
 |_=>0
theorem C4p{src:A6}{B r p:Nat}{w:World}{s:RF}(h:T6 src B r p w s):D2C w r=s.err:=by
 unfold D2C;rw[h.hr];simp
theorem C4o{src:A6}{B r p:Nat}{w:World}{s:RF}(h:T6 src B r p w s):D2B w r=s.at_:=by
 unfold D2B;rw[h.hr];simp
def RfM(src:A6)(r:Nat)(_:List Value)(w:World):Nat:=if D2C w r≠0 then 0 else 1+(src.length- D2B w r)
theorem C3J{src:A6}{B r p:Nat}{w w':World}{s s':RF}{x y:List Value}{d:Nat}(h:T6 src B r p w s)(h':T6 src B r p w' s')(h0:s.err=0)(hw':RfW src d s')(hat:s.at_<s'.at_):RfM src r y w'<RfM src r x w:=by
 unfold RfM;rw[C4p h,C4p h',C4o h,C4o h'];have h1:=hw'.ae;have h2:=hw'.el;rw[if_neg (show¬s.err≠0 by omega)];split<;>omega
theorem C7S{src:A6}{d:Nat}{s:RF}(h:RfW src d s)(ht:s.txt≠[]):s.at_<(I6 src s).at_:=by
 have h1:=h.txl;have h2:=List.length_pos_iff.2 ht;have h3:=B1a src s.en;show s.at_<V6 src s.en;omega
theorem C8c{src:A6}{B r p:Nat}{w:World}{s:RF}(h:T6 src B r p w s)(a b site:Int)(t:A6)(hn:s.ns.length≤1000000):
 Calls pr V0 #[pt r 0,vi a,.string (S t),vi site,vi b] w (RfP src B r p w (vi (A3P {nd0 with kind:=4,a:=a,b:=b,sign:=t,site:=site} s).2) (A3P {nd0 with kind:=4,a:=a,b:=b,sign:=t,site:=site} s).1):=by
 refine A9W _ _ _ _ _ _ _ ?_;unfold A6C;simp only[↓D5 (E3d _ _ _ _ _)];refine A9 (A7G h {nd0 with kind:=4,a:=a,b:=b,sign:=t,site:=site} hn) ?_;rintro _ w2 ⟨rfl,hf,h2⟩;simp only[C5];exact⟨rfl,hf,h2⟩
def RcI(src:A6)(B r p:Nat)(w0:World)(n:Nat)(mul:Bool)(s':RF)(k:Int)(vs:List Value)(w:World):Prop:=
 ∃(m:Nat) (a:Int) (s1:RF),vs=[vi a]∧m≤n∧FrB B r p w0 w∧T6 src B r p w s1∧RfW src 0 s1∧rex src m (.ch mul a) s1=some (s',k)
def RcJ(src:A6)(B r p:Nat)(w0:World)(s:RF)(vs:List Value)(w:World):Prop:=vs=[vi (A4Y true s)]∧FrB B r p w0 w∧T6 src B r p w (A1O true s)
theorem E1s{t:A6}(h:Q4 true t=false):(t==[42])=false∧(t==[47])=false∧(t==[37])=false:=by
 simpa[Q4,A2R,Bool.or_eq_false_iff,and_assoc]using h
theorem D8T{t:A6}(h:Q4 false t=false):(t==[43])=false∧(t==[45])=false:=by
 simpa[Q4,A2S,Bool.or_eq_false_iff,and_assoc]using h
theorem D2q{src:A6}(hs:src.length≤400)(n:Nat)(ih:∀m,m≤n→C1k src L7 .un m):C1k src O7 .pr (n+1):=by
 intro B r p s s' k w hw h hx;refine A7b _ _ _ ?_;unfold A3M;simp only[rex]at hx;cases hx1:rex src n .un s with
 |none=>rw[hx1]at hx;cases hx
 |some sa=>
  obtain⟨s1,a⟩:=sa;rw[hx1]at hx;simp only at hx;obtain⟨g1,g2,g3⟩:=A2Q n _ _ _ _ 0 hw hx1;refine A9 (ih n (Nat.le_refl _) B r p _ _ _ w hw h hx1) ?_;rintro _ w1 ⟨rfl,hf1,h1⟩;simp only[C5];refine⟨RcI src B r p w n true s' k,RfM src r,⟨n,a,s1,rfl,Nat.le_refl _,hf1,h1,g1,hx⟩,?_⟩;rintro e1 w2 ⟨m,b,s2,he,hm,hf2,h2,hw2,hx2⟩;have e13:e1 3=vi b:=by simpa using he
  rw[e13];have hr2:=h2.hr
  match m,hm,hx2 with
  |0,_,hx2=>simp[rex]at hx2
  |m+1,hm,hx2=>
  simp only[rex]at hx2;simp only[↓Zz1,RV,GR,Nat.reduceAdd,hr2];by_cases h0:s2.err=0
  ·have z0:((s2.err:Int)==0)=true:=by simp[h0]
   simp only[z0,↓Zz1,Zz8,Nat.reduceAdd,yC,hr2];have stop:Q4 true s2.txt=false→RfP src B r p w (vi k) s' (.returned (vi b)) w2:=fun hq=>by
    rw[if_neg (by rw[hq];simp)]at hx2;cases hx2;exact⟨rfl,hf2,h2⟩
   have body:Q4 true s2.txt=true→∀w3,RcJ src B r p w2 s2 [vi (A4Y true s2)] w3→cl pr (fun c w_1=>RfP src B r p w (vi k) s' (.panicked c) w_1) w3 F8 #[pt r 0] fun _ w4=>
    cl pr (fun c w_1=>RfP src B r p w (vi k) s' (.panicked c) w_1) w4 L7 #[pt r 0] fun t69 w5=>
    cl pr (fun c w_1=>RfP src B r p w (vi k) s' (.panicked c) w_1) w5 V0 #[pt r 0,vi b,.string (S s2.txt),vi (A4Y true s2),t69] fun t75 w6=>
    RcI src B r p w n true s' k [t75] w6∧RfM src r [t75] w6<RfM src r [vi b] w2:=fun hq w3 ⟨_,hf3,h3⟩=>by
    rw[if_pos ⟨h0,hq⟩]at hx2;have hne:=B2Z hq;have q5:=hw2.bstep (mul:=true) h0 hne;refine A9 (A0M h3 (by rw[C3t];exact hw2.el) hs) ?_;rintro _ w4 ⟨rfl,hf4,h4⟩;simp only[C5];cases hx3:rex src m (B9z true) (I6 src (A1O true s2))with
    |none=>rw[hx3]at hx2;cases hx2
    |some sb=>
     obtain⟨s5,c⟩:=sb;rw[hx3]at hx2;simp only at hx2;obtain⟨v1,v2,v3⟩:=A2Q m _ _ _ _ 1 q5 hx3;refine A9 (ih m om B r p _ _ _ w4 (q5.le om) h4 hx3) ?_;rintro _ w5 ⟨rfl,hf5,h5⟩;simp only[C5];refine A9 (C8c h5 b c (A4Y true s2) s2.txt (by have:=(v1.small hs).1;omega)) ?_;rintro _ w6 ⟨rfl,hf6,h6⟩;simp only[C5];have hw6:=v1.node {nd0 with kind:=4,a:=b,b:=c,sign:=s2.txt,site:=A4Y true s2};refine⟨⟨m,_,_,rfl,om,(((hf2.trans hf3).trans hf4).trans hf5).trans hf6,h6,hw6,hx2⟩,C3J h2 h6 h0 hw6 ?_⟩;have w1:s2.at_<(I6 src (A1O true s2)).at_:=by
      show s2.at_<V6 src (A1O true s2).en;rw[C3t];exact C7S hw2 hne
     exact Nat.lt_of_lt_of_le w1 v3
   cases hq:Q4 true s2.txt with
   |false=>
    obtain⟨z42,z47,z37⟩:=E1s hq;simp only[z42,z47,z37,↓Zz1,Zz8,Nat.reduceAdd,yC,hr2];exact stop hq
   |true=>
    obtain⟨nv,kv,q1,q2,q3⟩:=h2.pg;have hsb:(s2.sites:Int)<9223372036854775807:=by have:=hw2.sb;have:=hw2.ae;have:=hw2.el;omega
    have tail:∀(e2:Nat→Value) w3,RcJ src B r p w2 s2 [e2 5] w3→cl pr (fun c w_1=>RfP src B r p w (vi k) s' (.panicked c) w_1) w3 F8 #[pt r 0] fun _ w4=>
     cl pr (fun c w_1=>RfP src B r p w (vi k) s' (.panicked c) w_1) w4 L7 #[pt r 0] fun t69 w5=>
     cl pr (fun c w_1=>RfP src B r p w (vi k) s' (.panicked c) w_1) w5 V0 #[pt r 0,vi b,.string (S s2.txt),e2 5,t69] fun t75 w6=>
     RcI src B r p w n true s' k [t75] w6∧RfM src r [t75] w6<RfM src r [vi b] w2:=fun e2 w3 ⟨hv,hf3,h3⟩=>by
     have e25:e2 5=vi (A4Y true s2):=by simpa using hv
     rw[e25];exact body hq w3 ⟨rfl,hf3,h3⟩
    have hdiv:s2.txt≠[42]→(s2.txt==[42])=false→IntKind.i64.wrap ((s2.sites:Int)+1)=((s2.sites+1:Nat):Int)→RcJ src B r p w2 s2 [vi s2.sites] (put (dr w2) p 3 (vi (s2.sites+1:Nat))):=fun hne hz hw=>by
     have hsite:A4Y true s2=s2.sites:=by unfold A4Y;rw[hz];rfl
     have hbump:A1O true s2={s2 with sites:=s2.sites+1}:=by unfold A1O;rw[hz];rfl
     refine⟨by rw[hsite],(FrB.refl B r p w2).dr.putP h2.pB q1 rfl,?_⟩;rw[hbump];exact h2.dr.setP (fun _ _=>rfl) rfl rfl rfl
    have hsm:(s2.sites:Int)<9223372036854775807→IntKind.i64.wrap ((s2.sites:Int)+1)=((s2.sites+1:Nat):Int):=fun _=>by rw[H2 om om];omega
    have ht:s2.txt=[42]∨s2.txt=[47]∨s2.txt=[37]:=by
     simp only[Q4,A2R,if_true,Bool.or_eq_true,beq_iff_eq,or_assoc]at hq;exact hq
    rcases ht with ht|ht|ht
    ·have z42:(s2.txt==[42])=true:=by rw[ht];rfl
     have n42:(s2.txt !=[42])=false:=by rw[ht];rfl
     have hsite:A4Y true s2=-1:=by unfold A4Y;rw[z42];rfl
     have hbump:A1O true s2=s2:=by unfold A1O;rw[z42];rfl
     simp only[z42,↓Zz1,Zz8,Nat.reduceAdd,yC,hr2];refine⟨RcJ src B r p w2 s2,tail,?_⟩;simp only[n42,↓Zz1,Zz8,Nat.reduceAdd,yC,hr2];exact⟨by rw[hsite],FrB.refl B r p w2,by rw[hbump];exact h2⟩
    ·have z42:(s2.txt==[42])=false:=by rw[ht];rfl
     have z47:(s2.txt==[47])=true:=by rw[ht];rfl
     have n42:(s2.txt !=[42])=true:=by rw[ht];rfl
     simp only[z42,z47,↓Zz1,Zz8,Nat.reduceAdd,yC,hr2];refine⟨RcJ src B r p w2 s2,tail,?_⟩;simp only[n42,↓Zz1,Zz45,Nat.reduceAdd,yC,hr2,q1,hsm hsb];exact hdiv (by rw[ht];decide) z42 (hsm hsb)
    ·have z42:(s2.txt==[42])=false:=by rw[ht];rfl
     have z47:(s2.txt==[47])=false:=by rw[ht];rfl
     have z37:(s2.txt==[37])=true:=by rw[ht];rfl
     have n42:(s2.txt !=[42])=true:=by rw[ht];rfl
     simp only[z42,z47,z37,↓Zz1,Zz8,Nat.reduceAdd,yC,hr2];refine⟨RcJ src B r p w2 s2,tail,?_⟩;simp only[n42,↓Zz1,Zz45,Nat.reduceAdd,yC,hr2,q1,hsm hsb];exact hdiv (by rw[ht];decide) z42 (hsm hsb)
  ·have z0:((s2.err:Int)==0)=false:=by simp;omega
   simp only[z0,↓Zz1,Zz8,Nat.reduceAdd,yC,hr2];rw[if_neg (fun hh=>h0 hh.1)]at hx2;cases hx2;exact⟨rfl,hf2,h2⟩
end Go.Inv
namespace Go.Inv
open Go.Sh
theorem D5U{src:A6}(hs:src.length≤400)(n:Nat)(ih:∀m,m≤n→C1k src O7 .pr m):C1k src R6 .su (n+1):=by
 intro B r p s s' k w hw h hx;refine A9X _ _ _ ?_;unfold A6D;simp only[rex]at hx;cases hx1:rex src n .pr s with
 |none=>rw[hx1]at hx;cases hx
 |some sa=>
  obtain⟨s1,a⟩:=sa;rw[hx1]at hx;simp only at hx;obtain⟨g1,g2,g3⟩:=A2Q n _ _ _ _ 0 hw hx1;refine A9 (ih n (Nat.le_refl _) B r p _ _ _ w hw h hx1) ?_;rintro _ w1 ⟨rfl,hf1,h1⟩;simp only[C5];refine⟨RcI src B r p w n false s' k,RfM src r,⟨n,a,s1,rfl,Nat.le_refl _,hf1,h1,g1,hx⟩,?_⟩;rintro e1 w2 ⟨m,b,s2,he,hm,hf2,h2,hw2,hx2⟩;have e13:e1 3=vi b:=by simpa using he
  rw[e13];have hr2:=h2.hr
  match m,hm,hx2 with
  |0,_,hx2=>simp[rex]at hx2
  |m+1,hm,hx2=>
  simp only[rex]at hx2;simp only[↓Zz1,RV,GR,Nat.reduceAdd,hr2];by_cases h0:s2.err=0
  ·have z0:((s2.err:Int)==0)=true:=by simp[h0]
   simp only[z0,↓Zz1,Zz8,Nat.reduceAdd,yC,hr2];have stop:Q4 false s2.txt=false→RfP src B r p w (vi k) s' (.returned (vi b)) w2:=fun hq=>by
    rw[if_neg (by rw[hq];simp)]at hx2;cases hx2;exact⟨rfl,hf2,h2⟩
   have site1:A4Y false s2=-1:=by unfold A4Y;rfl
   have bump1:A1O false s2=s2:=by unfold A1O;rfl
   rw[site1,bump1]at hx2;have body:Q4 false s2.txt=true→cl pr (fun c w_1=>RfP src B r p w (vi k) s' (.panicked c) w_1) w2 F8 #[pt r 0] fun _ w4=>
    cl pr (fun c w_1=>RfP src B r p w (vi k) s' (.panicked c) w_1) w4 O7 #[pt r 0] fun t69 w5=>
    cl pr (fun c w_1=>RfP src B r p w (vi k) s' (.panicked c) w_1) w5 V0 #[pt r 0,vi b,.string (S s2.txt),vi (-1),t69] fun t75 w6=>
    RcI src B r p w n false s' k [t75] w6∧RfM src r [t75] w6<RfM src r [vi b] w2:=fun hq=>by
    rw[if_pos ⟨h0,hq⟩]at hx2;have hne:=B2Z hq;have q5:=hw2.step h0 hne;refine A9 (A0M h2 hw2.el hs) ?_;rintro _ w4 ⟨rfl,hf4,h4⟩;simp only[C5];cases hx3:rex src m (B9z false) (I6 src s2)with
    |none=>rw[hx3]at hx2;cases hx2
    |some sb=>
     obtain⟨s5,c⟩:=sb;rw[hx3]at hx2;simp only at hx2;obtain⟨v1,v2,v3⟩:=A2Q m _ _ _ _ 1 q5 hx3;refine A9 (ih m om B r p _ _ _ w4 (q5.le om) h4 hx3) ?_;rintro _ w5 ⟨rfl,hf5,h5⟩;simp only[C5];refine A9 (C8c h5 b c (-1) s2.txt (by have:=(v1.small hs).1;omega)) ?_;rintro _ w6 ⟨rfl,hf6,h6⟩;simp only[C5];have hw6:=v1.node {nd0 with kind:=4,a:=b,b:=c,sign:=s2.txt,site:=-1};exact⟨⟨m,_,_,rfl,om,((hf2.trans hf4).trans hf5).trans hf6,h6,hw6,hx2⟩,C3J h2 h6 h0 hw6 (Nat.lt_of_lt_of_le (C7S hw2 hne) v3)⟩
   cases hq:Q4 false s2.txt with
   |false=>
    obtain⟨z43,z45⟩:=D8T hq;simp only[z43,z45,↓Zz1,Zz8,Nat.reduceAdd,yC,hr2];exact stop hq
   |true=>
    have ht:s2.txt=[43]∨s2.txt=[45]:=by
     simp only[Q4,A2S,Bool.false_eq_true,if_false,Bool.or_eq_true,beq_iff_eq]at hq;exact hq
    rcases ht with ht|ht
    ·have z43:(s2.txt==[43])=true:=by rw[ht];rfl
     simp only[z43,↓Zz1,Zz8,Nat.reduceAdd,yC,hr2];exact body hq
    ·have z43:(s2.txt==[43])=false:=by rw[ht];rfl
     have z45:(s2.txt==[45])=true:=by rw[ht];rfl
     simp only[z43,z45,↓Zz1,Zz8,Nat.reduceAdd,yC,hr2];exact body hq
  ·have z0:((s2.err:Int)==0)=false:=by simp;omega
   simp only[z0,↓Zz1,Zz8,Nat.reduceAdd,yC,hr2];rw[if_neg (fun hh=>h0 hh.1)]at hx2;cases hx2;exact⟨rfl,hf2,h2⟩
theorem C2z{src:A6}(hs:src.length≤400):∀n,C1k src L7 .un n∧C1k src O7 .pr n∧C1k src R6 .su n:=by
 intro n
 induction n using Nat.strongRecOn with
 |ind n ih=>
  cases n with
  |zero=>
   refine⟨?_,?_,?_⟩<;>(intro B r p s s' k w _ _ hx;simp[rex]at hx)
  |succ n=>
   exact⟨D0s hs n (ih n om).1 (ih n om).2.2,D2q hs n fun m hm=>(ih m om).1,D5U hs n fun m hm=>(ih m om).2.1⟩
end Go.Inv
namespace Go.Inv
open Go.Sh
theorem C4n{src:A6}(hs:src.length≤400){B r p:Nat}{w:World}{s:RF}(h:T6 src B r p w s)(hen:s.en≤src.length):Calls pr A1G #[pt r 0] w (RfP src B r p w (vi (S2 src s).2) (S2 src s).1):=by
 refine A9v _ _ _ ?_;unfold A5Q;have hr:=h.hr;simp only[↓Zz1,RV,GR,Nat.reduceAdd,hr];refine A9 (B2D s.txt w) ?_;rintro _ w1 ⟨rfl,rfl⟩;have bad:s.err≠0∨P4 s.txt=none→cl pr (fun c w_1=>RfP src B r p w1 (vi (S2 src s).2) (S2 src s).1 (.panicked c) w_1) w1 I8 #[pt r 0,vi 2] fun _ w_1=>RfP src B r p w1 (vi (S2 src s).2) (S2 src s).1 (.returned (vi 0)) w_1:=fun hb=>by
  have e:S2 src s=(N2 2 s,0):=by unfold S2;rw[if_pos hb]
  rw[e];refine A9 (A7D h 2) ?_;rintro _ w2 ⟨rfl,hf,h2⟩;simp only[C5];exact⟨rfl,hf,h2⟩
 simp only[C5,↓Zz1,RV,GR,Nat.reduceAdd,hr];by_cases h0:s.err=0
 ·have z0:((s.err:Int) !=0)=false:=by simp[h0]
  simp only[z0,↓Zz1,Zz8,Nat.reduceAdd,yC,hr];cases hv:(P4 s.txt).isSome with
  |false=>
   simp only[yQ,↓Zz1,Zz8,yC];exact bad (.inr (by cases hh:P4 s.txt with|none=>rfl|some x=>rw[hh]at hv;cases hv))
  |true=>
   obtain⟨c,hc,hc1,hc2,hc3⟩:=C3W hv;have e:S2 src s=(I6 src s,B8n s.txt):=by
    unfold S2;rw[if_neg];rintro(hh|hh)
    ·exact hh h0
    ·rw[hh]at hv;cases hv
   rw[e,hc3];have hsub:IntKind.u8.wrap ((c.toNat:Int)- 97)=((c.toNat- 97:Nat):Int):=B0R hc1 om;have hwr:IntKind.i64.wrap ((c.toNat- 97:Nat):Int)=((c.toNat- 97:Nat):Int):=H2 om om;have hst:A7r s.txt 0=some (vb c):=by rw[hc];rfl
   simp only[yQ,↓Zz1,Zz8,Nat.reduceAdd,yC,hr,hst,hsub,hwr];refine A9 (A0M h hen hs) ?_;rintro _ w2 ⟨rfl,hf,h2⟩;simp only[C5];exact⟨rfl,hf,h2⟩
 ·have z0:((s.err:Int) !=0)=true:=by simp;omega
  simp only[z0,↓Zz1,Zz8,Nat.reduceAdd,yC,hr];exact bad (.inl h0)
theorem C4r(t:A6):V7 t=none↔((t==[60])=false∧(t==[60,61])=false∧(t==[61,61])=false∧(t==[33,61])=false∧(t==[62,61])=false∧(t==[62])=false):=by
 unfold V7;cases h1:(t==[60])<;>cases h2:(t==[62,61])<;>cases h3:(t==[60,61])<;>cases h4:(t==[62])<;>cases h5:(t==[61,61])<;>cases h6:(t==[33,61])<;>simp
theorem E3c(a b:Int)(s:ByteArray)(w:World):(D0 151 [(0,vi 5),(1,vi a),(2,vi b),(6,.string s)]).run pr w= .ok (.value (.agg #[vi 5,vi a,vi b,vi 0,vi 0,vi 0,.string s,vi 0,vi 0,.bool false])) w:=kr
def CoJ(src:A6)(B r p:Nat)(w0:World)(s1:RF)(vs:List Value)(w:World):Prop:=vs=[.string (S s1.txt)]∧FrB B r p w0 w∧T6 src B r p w (O0 s1)
def E5g(src:A6)(f:Nat)(n:Nat):Prop:=∀(B r p:Nat) (s s':RF) (k:Int) (w:World),RfW src 0 s→T6 src B r p w s→A6H src n s=some (s',k)→Calls pr f #[pt r 0] w (RfP src B r p w (vi k) s')
theorem D2I(s:RF):(O0 s).txt=s.txt∧(O0 s).en=s.en:=by
 unfold O0 N2;split
 ·split<;>exact⟨rfl,rfl⟩
 ·exact⟨rfl,rfl⟩
theorem D2H{src:A6}{d:Nat}{s:RF}(h:RfW src d s):RfW src d (O0 s)∧(O0 s).op=s.op∧(O0 s).at_=s.at_:=by
 unfold O0;split
 ·exact⟨h.wrong (by decide),by unfold N2;split<;>rfl,A9H _ _⟩
 ·exact⟨h,rfl,rfl⟩
theorem D6h{s:RF}(h:(O0 s).err=0):s.err=0∧V7 s.txt≠none:=by
 unfold O0 N2 at h;split at h
 ·rename_i hc;rw[if_pos hc.1]at h;cases h
 ·rename_i hc;exact⟨h,fun hh=>hc ⟨h,hh⟩⟩
theorem B9x{src:A6}(hs:src.length≤400)(n:Nat):E5g src A0m n:=by
 intro B r p s s' k w hw h hx;refine A9w _ _ _ ?_;unfold A5R;unfold A6H at hx;cases hx1:rex src n .su s with
 |none=>rw[hx1]at hx;cases hx
 |some sa=>
  obtain⟨s1,a⟩:=sa;rw[hx1]at hx;simp only at hx;obtain⟨g1,g2,g3⟩:=A2Q n _ _ _ _ 0 hw hx1;refine A9 ((C2z hs n).2.2 B r p _ _ _ w hw h hx1) ?_;rintro _ w1 ⟨rfl,hf1,h1⟩;simp only[C5];refine⟨CoJ src B r p w1 s1,?_,?_⟩
  ·rintro e1 w2 ⟨hv,hf2,h2⟩;have e14:e1 4= .string (S s1.txt):=by simpa using hv
   rw[e14];have hr2:=h2.hr;obtain⟨q1,q2,q3⟩:=D2H g1;simp only[↓Zz1,RV,GR,Nat.reduceAdd,hr2];refine S0 (p:=(O0 s1).err≠0) (by by_cases hh:(O0 s1).err=0<;>simp[hh]) (fun h0=>?_) (fun h0=>?_)
   ·rw[if_pos h0]at hx;cases hx;exact⟨rfl,hf1.trans hf2,h2⟩
   ·rw[if_neg h0]at hx;have h0:(O0 s1).err=0:=om;have hne:s1.txt≠[]:=by
     have:=(D6h h0).2;rintro hh;rw[hh]at this;exact this (by decide)
    have q5:=q1.step h0 (by rw[(D2I s1).1];exact hne);refine A9 (A0M h2 q1.el hs) ?_;rintro _ w3 ⟨rfl,hf3,h3⟩;simp only[C5];cases hx3:rex src n .su (I6 src (O0 s1))with
    |none=>rw[hx3]at hx;cases hx
    |some sb=>
     obtain⟨s5,c⟩:=sb;rw[hx3]at hx;simp only at hx;obtain⟨v1,v2,v3⟩:=A2Q n _ _ _ _ 1 q5 hx3;refine A9 ((C2z hs n).2.2 B r p _ _ _ w3 (q5.le om) h3 hx3) ?_;rintro _ w5 ⟨rfl,hf5,h5⟩;simp only[C5,↓D5 (E3c _ _ _ _)];refine A9 (A7G h5 {nd0 with kind:=5,a:=a,b:=c,sign:=s1.txt} (by have:=(v1.small hs).1;omega)) ?_;rintro _ w6 ⟨rfl,hf6,h6⟩;simp only[C5];cases hx;exact⟨rfl,(((hf1.trans hf2).trans hf3).trans hf5).trans hf6,h6⟩
  ·have hr1:=h1.hr;have good:¬(s1.err=0∧V7 s1.txt=none)→CoJ src B r p w1 s1 [.string (S s1.txt)] w1:=fun hn=>⟨rfl,FrB.refl B r p w1,by unfold O0;rw[if_neg hn];exact h1⟩;have bad:(s1.err=0∧V7 s1.txt=none)→cl pr (fun c w_1=>RfP src B r p w (vi k) s' (.panicked c) w_1) w1 I8 #[pt r 0,vi 2] fun _ w_1=>CoJ src B r p w1 s1 [.string (S s1.txt)] w_1:=fun hy=>by
    refine A9 (A7D h1 2) ?_;rintro _ w2 ⟨rfl,hf,h2⟩;simp only[C5];exact⟨rfl,hf,by unfold O0;rw[if_pos hy];exact h2⟩
   simp only[↓Zz1,RV,GR,Nat.reduceAdd,hr1];by_cases h0:s1.err=0
   ·have z0:((s1.err:Int)==0)=true:=by simp[h0]
    have hiff:=C4r s1.txt;simp only[z0,↓Zz1,RV,GR,CG,Nat.reduceAdd,yC,bSS];cases y1:(s1.txt==[60])
    ·simp only[yQ,↓Zz1,Zz25,yC];cases y2:(s1.txt==[60,61])
     ·simp only[yQ,↓Zz1,Zz25,yC];cases y3:(s1.txt==[61,61])
      ·simp only[yQ,↓Zz1,Zz25,yC];cases y4:(s1.txt==[33,61])
       ·simp only[yQ,↓Zz1,Zz25,yC];cases y5:(s1.txt==[62,61])
        ·simp only[yQ,↓Zz1,Zz25,yC];cases y6:(s1.txt==[62])
         ·simp only[yQ,↓Zz1,Zz25,yC];exact bad ⟨h0,hiff.2 ⟨y1,y2,y3,y4,y5,y6⟩⟩
         ·simp only[yQ,↓Zz1,Zz25,yC];exact good (fun hh=>by have:=hiff.1 hh.2;rw[y6]at this;simp at this)
        ·simp only[yQ,↓Zz1,Zz25,yC];exact good (fun hh=>by have:=hiff.1 hh.2;rw[y5]at this;simp at this)
       ·simp only[yQ,↓Zz1,Zz25,yC];exact good (fun hh=>by have:=hiff.1 hh.2;rw[y4]at this;simp at this)
      ·simp only[yQ,↓Zz1,Zz25,yC];exact good (fun hh=>by have:=hiff.1 hh.2;rw[y3]at this;simp at this)
     ·simp only[yQ,↓Zz1,Zz25,yC];exact good (fun hh=>by have:=hiff.1 hh.2;rw[y2]at this;simp at this)
    ·simp only[yQ,↓Zz1,Zz25,yC];exact good (fun hh=>by have:=hiff.1 hh.2;rw[y1]at this;simp at this)
   ·have z0:((s1.err:Int)==0)=false:=by simp;omega
    simp only[z0,↓Zz1,Zz8,Nat.reduceAdd,yC];exact good (fun hh=>h0 hh.1)
end Go.Inv
namespace Go.Inv
open Go.Sh
structure Emb(V:Type) where
 a:V→Int
 b:V→Int
section
variable {V : Type} (e : Emb V)
def Emb.l(x:V):List Value:=[.int .i64 (e.a x),.int .i64 (e.b x)]
abbrev Emb.v(x:V):Value:=.agg #[.int .i64 (e.a x),.int .i64 (e.b x)]
def stL(x:St V):List Value:=.bool x.some::x.vars.flatMap e.l
def stA(x:St V):Array Value:=(stL e x).toArray
def fcA(fs:List (St V)):Array Value:=(fs.flatMap (stL e)).toArray
theorem A0p{α β:Type}{f:α→List β}{k:Nat}:∀{l:List α},(∀x∈l,(f x).length=k)→(l.flatMap f).length=l.length*k
 |[],_=>by simp
 |x::l,h=>by
  rw[List.flatMap_cons,List.length_append,h x (by simp),A0p (fun y hy=>h y (by simp[hy])),List.length_cons,Nat.add_mul,Nat.one_mul,Nat.add_comm]
theorem A0w{α β:Type}{f:α→List β}{l:List α}{i:Nat}(hi:i<l.length):l.flatMap f=(l.take i).flatMap f++(f l[i]++(l.drop (i+1)).flatMap f):=by
 conv=>lhs;rw[←List.take_append_drop i l,List.drop_eq_getElem_cons hi]
 rw[List.flatMap_append,List.flatMap_cons]
theorem A4H{α β:Type}{f:α→List β}{l:List α}{i:Nat}(u:α)(hi:i<l.length):(l.set i u).flatMap f=(l.take i).flatMap f++(f u++(l.drop (i+1)).flatMap f):=by
 rw[List.set_eq_take_append_cons_drop,if_pos hi,List.flatMap_append,List.flatMap_cons]
theorem A2h{α β:Type}{f:α→List β}{k:Nat}{l:List α}{i:Nat}(h:∀x∈l,(f x).length=k)(hi:i<l.length):((l.take i).flatMap f).length=i*k:=by
 rw[A0p (fun x hx=>h x (List.mem_of_mem_take hx)),List.length_take,Nat.min_eq_left om]
theorem A5j{x:St V}(h:x.vars.length=8):(stL e x).length=17:=by
 unfold stL;rw[List.length_cons,A0p (k:=2) (fun _ _=>rfl),h]
theorem B8A{x:St V}(h:x.vars.length=8):(stA e x).size=17:=by unfold stA;simpa using A5j e h
theorem D1j(x:St V):(stL e x).all G3=true:=by
 unfold stL;rw[List.all_cons,List.all_flatMap];simp[G3,Emb.l]
theorem D1k(x:St V):(stA e x).toList.all G3=true:=D1j e x
theorem B1g{p q r:List Value}{t:Nat}{f:Nat×Nat}{i n:Nat}(hi:p.length=i)(hn:q.length=n):I0 (some (.cells (p++(q++r)).toArray t f)) i n=some (.agg q.toArray):=by
 subst hi;subst hn;unfold I0;simp only;rw[if_pos (by simp)];congr 2;apply Array.toList_inj.1;simp[List.extract_eq_take_drop]
theorem C9{b c:Nat}(h:c≠b):∀(vs:List Value) (i:Nat) (w:World),(putL w b i vs).heap[c]?=w.heap[c]?
 |[],_,_=>rfl
 |v::vs,i,w=>by rw[putL,C9 h vs];exact A7 h
theorem A0d(b:Nat):∀(vs:List Value) (i:Nat) (w:World),(putL w b i vs).heap.size=w.heap.size
 |[],_,_=>rfl
 |v::vs,i,w=>by rw[putL,A0d b vs];exact G2 _ _
theorem B5E{b t:Nat}{f:Nat×Nat}{r:List Value}:∀(vs p q:List Value) (w:World),w.heap[b]?=some (.cells (p++(q++r)).toArray t f)→q.length=vs.length→
 (putL w b p.length vs).heap[b]?=some (.cells (p++(vs++r)).toArray t f)
 |[],p,q,w,h,hq=>by
  have:q=[]:=List.length_eq_zero_iff.1 hq;subst this;exact h
 |v::vs,p,[],w,h,hq=>by cases hq
 |v::vs,p,c::q,w,h,hq=>by
  have h1:(put w b p.length v).heap[b]?=some (.cells ((p++[v])++(q++r)).toArray t f):=by
   rw[C6,h];simp only[Option.map_some,A1C];congr 2;apply Array.toList_inj.1;simp
  have h2:=B5E vs (p++[v]) q _ h1 (by simpa using hq);rw[List.length_append]at h2;rw[putL];simpa using h2
theorem C7T(x:St V)(t:Nat)(f:Nat×Nat):H4 (some (.cells (stA e x) t f)) 0=some (.bool x.some):=by
 unfold H4 stA stL;simp
theorem B3v{x:St V}{v:Nat}{d:V}(h:x.vars.length=8)(hv:v<8):stL e x=(.bool x.some::(x.vars.take v).flatMap e.l)++(e.l (x.vars.getD v d)++(x.vars.drop (v+1)).flatMap e.l)∧(Value.bool x.some::(x.vars.take v).flatMap e.l).length=1+v*2:=by
 have hv':v<x.vars.length:=om;refine⟨?_,?_⟩
 ·unfold stL;rw[A0w hv'];simp[List.getD_eq_getElem?_getD,hv']
 ·rw[List.length_cons,A2h (k:=2) (fun _ _=>rfl) hv'];omega
theorem D8R{x:St V}{v:Nat}{t:Nat}{f:Nat×Nat}(d:V)(h:x.vars.length=8)(hv:v<8):I0 (some (.cells (stA e x) t f)) (1+v*2) 2=some (e.v (x.vars.getD v d)):=by
 obtain⟨h1,h2⟩:=B3v e (d:=d) h hv;unfold stA;rw[h1];exact B1g h2 rfl
theorem D8S{x:St V}{t:Nat}{f:Nat×Nat}(h:x.vars.length=8):I0 (some (.cells (stA e x) t f)) 0 17=some (.agg (stA e x)):=by
 have:=B1g (p:=[]) (q:=stL e x) (r:=[]) (t:=t) (f:=f) rfl (A5j e h);simpa[stA]using this
theorem D7L{x:St V}{t i n:Nat}(h:x.vars.length=8)(hi:i+n≤17):okRow (some (.cells (stA e x) t)) i n=true:=by
 have:=B8A e h;simp[okRow,this,hi]
theorem B4m{fs:List (St V)}{i:Nat}{d:St V}(h:∀x∈fs,x.vars.length=8)(hi:i<fs.length):fs.flatMap (stL e)=(fs.take i).flatMap (stL e)++(stL e (fs.getD i d)++(fs.drop (i+1)).flatMap (stL e))∧((fs.take i).flatMap (stL e)).length=i*17:=by
 refine⟨?_,A2h (fun x hx=>A5j e (h x hx)) hi⟩;rw[A0w hi];simp[List.getD_eq_getElem?_getD,hi]
theorem B0v{α:Type}{l:List α}{i:Nat}{d:α}(hi:i<l.length):l.getD i d∈l:=by
 rw[List.getD_eq_getElem?_getD,List.getElem?_eq_getElem hi];exact List.getElem_mem hi
theorem C7r{fs:List (St V)}{i t:Nat}{f:Nat×Nat}(d:St V)(h:∀x∈fs,x.vars.length=8)(hi:i<fs.length):I0 (some (.cells (fcA e fs) t f)) (i*17) 17=some (.agg (stA e (fs.getD i d))):=by
 obtain⟨h1,h2⟩:=B4m e (d:=d) h hi;unfold fcA;rw[h1];exact B1g h2 (A5j e (h _ (B0v hi)))
theorem C3r{fs:List (St V)}(h:∀x∈fs,x.vars.length=8):(fcA e fs).size=fs.length*17:=by
 unfold fcA;rw[List.size_toArray,A0p (fun x hx=>A5j e (h x hx))]
theorem E2A{fs:List (St V)}{t i:Nat}(h:∀x∈fs,x.vars.length=8)(hi:i<fs.length):okRow (some (.cells (fcA e fs) t)) (i*17) 17=true:=by
 have:=C3r e h;simp[okRow,this];omega
end
def setR(c:Array Value)(i:Nat):List Value→Array Value
 |[]=>c
 |v::r=>setR (c.setIfInBounds i v) (i+1) r
def A3p(i:Nat)(vs:List Value):Obj→Obj
 | .cells c t f=>.cells (setR c i vs) t f
 |x=>x
theorem U6(b c:Nat):∀(vs:List Value) (i:Nat) (w:World),(putL w b i vs).heap[c]?=if c=b then(w.heap[b]?).map (A3p i vs)else w.heap[c]?
 |[],i,w=>by
  split
  ·rename_i h;subst h;show w.heap[c]?=_;cases w.heap[c]? with
   |none=>rfl
   |some o=>cases o<;>rfl
  ·rfl
 |v::vs,i,w=>by
  rw[putL,U6 b c vs];split
  ·rename_i h;subst h;rw[C6];cases w.heap[c]? with
   |none=>rfl
   |some o=>cases o<;>rfl
  ·rename_i h;exact A7 h
theorem A5W{r:List Value}:∀(vs p q:List Value),q.length=vs.length→setR (p++(q++r)).toArray p.length vs=(p++(vs++r)).toArray
 |[],p,q,hq=>by
  have:q=[]:=List.length_eq_zero_iff.1 hq;subst this;rfl
 |v::vs,p,[],hq=>by cases hq
 |v::vs,p,c::q,hq=>by
  have h2:=A5W (r:=r) vs (p++[v]) q (by simpa using hq);rw[List.length_append]at h2;have e:(p++(c::q++r)).toArray.setIfInBounds p.length v=((p++[v])++(q++r)).toArray:=by
   apply Array.toList_inj.1;simp
  rw[setR,e];have h3:p.length+[v].length=p.length+1:=rfl;rw[h3]at h2;rw[h2];simp
section
variable {V : Type} (e : Emb V)
theorem C2x{x y:St V}{t:Nat}{f:Nat×Nat}(h:x.vars.length=8)(h2:y.vars.length=8):Option.map (A3p 0 (stA e y).toList) (some (.cells (stA e x) t f))=some (.cells (stA e y) t f):=by
 have:=A5W (r:=[]) (stL e y) [] (stL e x) (by rw[A5j e h,A5j e h2]);simp only[Option.map_some,A3p];congr 2;simpa[stA]using this
theorem C2y{x:St V}{v t:Nat}{f:Nat×Nat}(u:V)(h:x.vars.length=8)(hv:v<8):Option.map (A3p (1+v*2) [.int .i64 (e.a u),.int .i64 (e.b u)]) (some (.cells (stA e x) t f))=some (.cells (stA e (V2 v u x)) t f):=by
 obtain⟨h1,h2⟩:=B3v e (d:=u) h hv;simp only[Option.map_some,A3p];congr 2;unfold stA;have:=A5W (r:=(x.vars.drop (v+1)).flatMap e.l) [.int .i64 (e.a u),.int .i64 (e.b u)] (Value.bool x.some::(x.vars.take v).flatMap e.l) (e.l (x.vars.getD v u)) rfl;rw[h1,←h2,this];unfold stL V2;simp only;rw[A4H u om];rfl
theorem D8Y{fs:List (St V)}{i t:Nat}{f:Nat×Nat}{y:St V}(h:∀x∈fs,x.vars.length=8)(hi:i<fs.length)(hy:y.vars.length=8):Option.map (A3p (i*17) (stA e y).toList) (some (.cells (fcA e fs) t f))=some (.cells (fcA e (fs.set i y)) t f):=by
 obtain⟨h1,h2⟩:=B4m e (d:=y) h hi;simp only[Option.map_some,A3p];congr 2;unfold fcA;rw[h1,←h2];have:=A5W (r:=(fs.drop (i+1)).flatMap (stL e)) (stL e y) ((fs.take i).flatMap (stL e)) (stL e (fs.getD i y)) (by rw[A5j e hy,A5j e (h _ (B0v hi))]);rw[show(stA e y).toList=stL e y from rfl,this,A4H y hi]
end
end Go.Inv
namespace Go.Inv
open Go.Sh
theorem A3s(x:Nd):x.l.length=10:=rfl
theorem P5.split{B:Nat}{w:World}{nb cap:Nat}{ns:List Nd}{n:Nat}(h:P5 B w (.slice (some ⟨nb,0,none⟩) n cap) ns){k:Nat}(hk:k<ns.length):
 ∃p r:List Value,w.heap[nb]?=some (.cells (p++(ns[k].l++r)).toArray A4N)∧p.length=k*10∧p=(ns.take k).flatMap Nd.l∧∃rest,r=(ns.drop (k+1)).flatMap Nd.l++rest∧n=ns.length∧B≤nb∧n≤cap∧cap≤maxLen∧(p++(ns[k].l++r)).length=cap*10:=by
 obtain⟨hl,h2⟩:=h;rcases h2 with⟨h2,h3⟩|⟨g,cp,cur,h2,h3,h4,h5,h6,h7,h8⟩
 ·cases h2
 ·cases h2;have hp:((ns.take k).flatMap Nd.l).length=k*10:=A2h (fun x _=>A3s x) hk;have e:cur.toList=(ns.take k).flatMap Nd.l++(ns[k].l++((ns.drop (k+1)).flatMap Nd.l++cur.toList.drop (ns.length*10))):=by
   conv=>lhs;rw[←List.take_append_drop (ns.length*10) cur.toList,h8,A0w hk]
   simp[List.append_assoc]
  refine⟨(ns.take k).flatMap Nd.l,(ns.drop (k+1)).flatMap Nd.l++cur.toList.drop (ns.length*10),?_,hp,rfl,_,rfl,rfl,h3,h5,h6,?_⟩
  ·rw[h4,←e]
  ·rw[←e,Array.length_toList];exact h7
theorem P5.of_split{B:Nat}{w:World}{nb cap:Nat}{ns:List Nd}{p r rest:List Value}{x:Nd}{k:Nat}(hk:k<ns.length)(hb:w.heap[nb]?=some (.cells (p++(x.l++r)).toArray A4N))(hp:p=(ns.take k).flatMap Nd.l)(hr:r=(ns.drop (k+1)).flatMap Nd.l++rest)
 (hB:B≤nb)(hc:ns.length≤cap)(hm:cap≤maxLen)(hl:(p++(x.l++r)).length=cap*10):P5 B w (.slice (some ⟨nb,0,none⟩) (ns.set k x).length cap) (ns.set k x):=by
 have e:(ns.set k x).flatMap Nd.l=p++(x.l++(ns.drop (k+1)).flatMap Nd.l):=by rw[A4H x hk,hp]
 have hlen:((ns.set k x).flatMap Nd.l).length=(ns.set k x).length*10:=A0p fun y _=>A3s y;refine⟨hlen,.inr ⟨nb,cap,_,rfl,hB,hb,by rw[List.length_set];exact hc,hm,by rw[List.size_toArray];exact hl,?_⟩⟩;rw[←hlen,e,hr];have e2:p++(x.l++((ns.drop (k+1)).flatMap Nd.l++rest))=(p++(x.l++(ns.drop (k+1)).flatMap Nd.l))++rest:=by simp[List.append_assoc]
 show(p++(x.l++((ns.drop (k+1)).flatMap Nd.l++rest))).take _=_;rw[e2,List.take_append_of_le_length (Nat.le_refl _),List.take_length]
theorem P5.set{B:Nat}{w:World}{nb cap n:Nat}{ns:List Nd}(h:P5 B w (.slice (some ⟨nb,0,none⟩) n cap) ns){k:Nat}(hk:k<ns.length)(x:Nd):P5 B (putL w nb (k*10) x.l) (.slice (some ⟨nb,0,none⟩) n cap) (ns.set k x):=by
 obtain⟨p,r,h1,h2,h3,rest,h4,rfl,h5,h6,h7,h8⟩:=h.split hk;have e:(putL w nb (k*10) x.l).heap[nb]?=some (.cells (p++(x.l++r)).toArray A4N):=by
  rw[U6,if_pos rfl,h1];show some (Obj.cells (setR (p++(ns[k].l++r)).toArray (k*10) x.l) A4N (0,0))=_;rw[←h2,A5W x.l p ns[k].l rfl]
 have:=P5.of_split hk e h3 h4 h5 h6 h7 (by simpa[A3s]using h8);rwa [List.length_set]at this
theorem P5.link{B:Nat}{w:World}{nb cap n:Nat}{ns:List Nd}(h:P5 B w (.slice (some ⟨nb,0,none⟩) n cap) ns){k:Nat}(hk:k<ns.length)(y:Int):
 P5 B (put w nb (k*10+5) (vi y)) (.slice (some ⟨nb,0,none⟩) n cap) (ns.set k {ns.getD k nd0 with next:=y})∧R2 (w.heap[nb]?) (k*10+5)=true:=by
 obtain⟨p,r,h1,h2,h3,rest,h4,rfl,h5,h6,h7,h8⟩:=h.split hk;have e:(put w nb (k*10+5) (vi y)).heap[nb]?=some (.cells (p++({ns[k]with next:=y}.l++r)).toArray A4N):=by
  rw[C6,h1,M6];congr 2;apply Array.ext';simp only[Array.toList_setIfInBounds];rw[←h2];simp[Nd.l,List.set_append]
 have hm:ns.getD k nd0=ns[k]:=by simp[List.getD_eq_getElem?_getD,List.getElem?_eq_getElem hk]
 have:=P5.of_split hk e h3 h4 h5 h6 h7 (by simpa[A3s]using h8);rw[List.length_set]at this;refine⟨by rw[hm];exact this,?_⟩;rw[h1];have:k*10+5<(p++(ns[k].l++r)).toArray.size:=by
  simp[A3s];omega
 have hb:Nat.blt (k*10+5) (p++(ns[k].l++r)).toArray.size=true:=by simpa[Nat.blt_eq]using this
 show(Nat.blt (k*10+5) (p++(ns[k].l++r)).toArray.size&&!(Nat.ble 0 (k*10+5)&&Nat.blt (k*10+5) 0))=true;rw[hb];have:Nat.blt (k*10+5) 0=false:=rfl;rw[this];simp
theorem P5.okRow{B:Nat}{w:World}{nb cap n:Nat}{ns:List Nd}(h:P5 B w (.slice (some ⟨nb,0,none⟩) n cap) ns){k:Nat}(hk:k<ns.length):okRow (w.heap[nb]?) (k*10) 10=true:=by
 obtain⟨p,r,h1,h2,h3,rest,h4,rfl,h5,h6,h7,h8⟩:=h.split hk;rw[h1];simp[Sh.okRow,A3s];omega
theorem P5.slice{B:Nat}{w:World}{v:Value}{ns:List Nd}(h:P5 B w v ns)(h0:ns≠[]):∃nb cap,v= .slice (some ⟨nb,0,none⟩) ns.length cap:=by
 rcases h.2 with⟨_,h2⟩|⟨g,cp,cur,rfl,_⟩
 ·exact absurd (List.eq_nil_of_length_eq_zero h2) h0
 ·exact⟨g,cp,rfl⟩
theorem E4U:B0L pr 90=some 10:=kr
theorem C1E(g n c i:Nat)(h:i<n):Pur pr (X0 90 (.slice (some ⟨g,0,none⟩) n c) (vi i)) (pt g (i*10)):=by
 have:=T1 (b:=g) (off:=0) (n:=n) (c:=c) E4U (Int.natCast_nonneg i) (by omega:(i:Int)<n);simpa using this
theorem T6.putS{src:A6}{B r p:Nat}{w:World}{s:RF}(h:T6 src B r p w s){c i:Nat}{v:Value}(hs:B2o r p w c):T6 src B r p (put w c i v) s:=by
 obtain⟨nv,kv,g1,g2,g3⟩:=h.pg;have hn:=hs.2.2.2 _ _ _ _ _ _ g1;refine⟨by rw[A7 (fun e=>hs.2.1 e.symm)];exact h.rd,⟨nv,kv,by rw[A7 (fun e=>hs.2.2.1 e.symm)];exact g1,?_,?_⟩,h.rB,h.pB,by rw[G2];exact h.wB⟩
 ·refine⟨g2.1,?_⟩;rcases g2.2 with g|⟨nb,cap,cur,rfl,q2,q3,q4⟩
  ·exact .inl g
  ·exact .inr ⟨nb,cap,cur,rfl,q2,by rw[A7 (fun e=>hn.1 (by rw[←e];rfl))];exact q3,q4⟩
 ·refine⟨g3.1,?_⟩;rcases g3.2 with g|⟨nb,cap,cur,rfl,q2,q3,q4⟩
  ·exact .inl g
  ·exact .inr ⟨nb,cap,cur,rfl,q2,by rw[A7 (fun e=>hn.2 (by rw[←e];rfl))];exact q3,q4⟩
theorem B2o.put{r p:Nat}{w:World}{c i:Nat}{v:Value}(hs:B2o r p w c):B2o r p (put w c i v) c:=
 ⟨by rw[G2];exact hs.1,hs.2.1,hs.2.2.1,fun nv a b d kv t hq=>hs.2.2.2 nv a b d kv t (by rw[A7 (fun e=>hs.2.2.1 e.symm)]at hq;exact hq)⟩
theorem FrB.putN{B r p:Nat}{a b:World}(h:FrB B r p a b){c i:Nat}{v:Value}(hB:B≤a.heap.size)(hc:a.heap.size≤c)(hp:c≠p):FrB B r p a (Sh.put b c i v):=
 ⟨by rw[G2];exact h.size,fun k hk=>by rw[A7 om];exact h.old k hk,h.out.put,fun k hk=>by
  obtain⟨h1,h2⟩:=h.safe k hk;refine⟨by rw[A7 (by have:=hk.1;omega)];exact h1,by rw[G2];exact h2.1,h2.2.1,h2.2.2.1,fun nv x y d kv t hq=>h2.2.2.2 nv x y d kv t (by rw[A7 hp.symm]at hq;exact hq)⟩⟩
theorem B2o.new{src:A6}{B r p:Nat}{w w':World}{s:RF}(h:T6 src B r p w s)(ho:D9 w w')(hs:w.heap.size<w'.heap.size):B2o r p w' w.heap.size:=by
 have hr:=B9 h.rd;have hp:=h.pl;refine⟨hs,om,om,fun nv a b d kv t hq=>?_⟩;obtain⟨nv',kv',g1,g2,g3⟩:=h.pg;have:=ho.heap g1;rw[this]at hq;injection hq with hq;injection hq with e1 e2
 obtain⟨rfl,_,_,_,rfl⟩:nv'=nv∧_=a∧_=b∧_=d∧kv'=kv:=by simpa using e1
 refine⟨fun e=>?_,fun e=>?_⟩
 ·obtain⟨_,cs,f,h6⟩:=P5.blk g2 e;have:=B9 h6;omega
 ·obtain⟨_,cs,f,h6⟩:=B3S g3 e;have:=B9 h6;omega
abbrev ndO(x:Nd):Obj:=.cells #[vi x.kind,vi x.a,vi x.b,vi x.c,vi x.n,vi x.next,.string (S x.sign),vi x.site,vi x.point,.bool x.els] A4N (0,0)
theorem E3s(w:World):(B4 151).run pr w= .ok (.value (pt w.heap.size 0)) (w.alloc (ndO nd0)):=kr
theorem D9.putLn{a:World}{k:Nat}(hk:a.heap.size≤k):∀{vs:List Value} {i:Nat} {b:World},D9 a b→D9 a (Sh.putL b k i vs)
 |[],_,_,h=>h
 |v::vs,i,b,h=>D9.putLn (vs:=vs) hk (h.put hk)
theorem D9S(x:Nd):Option.map (A3p 0 [vi x.kind,vi x.a,vi x.b,vi x.c,vi x.n,vi x.next,.string (S x.sign),vi x.site,vi x.point,.bool x.els]) (some (ndO nd0))=some (ndO x):=by
 have h:setR nd0.l.toArray 0 x.l=x.l.toArray:=by simpa using A5W (r:=[]) x.l [] nd0.l rfl
 show some (Obj.cells (setR nd0.l.toArray 0 x.l) A4N)=some (Obj.cells x.l.toArray A4N);rw[h]
theorem B3V{E:B7}{K:Yv}{x:Nd}{w:World}
 (hK:∀w',D9 w w'→w.heap.size<w'.heap.size→w'.heap[w.heap.size]?=some (ndO x)→K (pt w.heap.size 0) w'):
 o pr E w (B4 151) fun t w=>o pr E w (A2 151 t x.v) fun _ w=>K t w:=by
 simp only[D5 (E3s _)];have ho:D9 w (w.alloc (ndO nd0)):=(D9.refl w).alloc _;have ha:(w.alloc (ndO nd0)).heap[w.heap.size]?=some (ndO nd0):=A5 _;have hz:w.heap.size<(w.alloc (ndO nd0)).heap.size:=by rw[C1];omega
 generalize w.alloc (ndO nd0)=w1 at*;have hrow:Sh.okRow (w1.heap[w.heap.size]?) 0 10=true:=by rw[ha];rfl
 simp only[↓RA1,↓RG,RV,hrow,G3,Bool.and_self,yL,decide_true,M1];refine hK _ (ho.putLn (Nat.le_refl _)) (by rw[A0d];exact hz) ?_;rw[U6,if_pos rfl,ha];exact D9S x
theorem C6C(t:A6)(w:World):Calls pr A8I #[.string (S t)] w (Is (.bool (A1j t)) w):=by
 refine B4Z _ _ _ ?_;unfold B1Y;refine A9 (B2D t w) ?_;rintro _ w1 ⟨rfl,rfl⟩;have fin:∀b,A1j t=b→Is (.bool (A1j t)) w1 (.returned (.bool b)) w1:=fun b hb=>by rw[hb];exact⟨rfl,rfl⟩
 generalize hR:Is (.bool (A1j t)) w1=R at*;have q1:A1a=[114,101,97,100]:=rfl;have q2:U4=[97,115,115,101,114,116]:=rfl;have q3:A9K=[105,102]:=rfl;have q4:A0Z=[119,104,105,108,101]:=rfl;unfold A1j at fin;rw[q1,q2,q3,q4]at fin;simp only[C5];cases h1:(P4 t).isSome
 ·simp only[↓Zz1,RV,CG,yC];cases h2:(t==[114,101,97,100])
  ·simp only[↓Zz1,RV,CG,yC];cases h3:(t==[97,115,115,101,114,116])
   ·simp only[↓Zz1,RV,CG,yC];cases h4:(t==[105,102])
    ·simp only[↓Zz1,RV,CG,yC];exact fin _ (by rw[h1,h2,h3,h4];rfl)
    ·simp only[↓Zz1,RV,CG,yC];exact fin _ (by rw[h1,h2,h3,h4];rfl)
   ·simp only[↓Zz1,RV,CG,yC];exact fin _ (by rw[h1,h2,h3];rfl)
  ·simp only[↓Zz1,RV,CG,yC];exact fin _ (by rw[h1,h2];rfl)
 ·simp only[↓Zz1,RV,CG,yC];exact fin _ (by rw[h1];rfl)
end Go.Inv
namespace Go.Inv
open Go.Sh
def D5d(src:A6)(n:Nat):Prop:=∀(B r p:Nat) (s s':RF) (k:Int) (w:World),RfW src 0 s→T6 src B r p w s→A1v src n (-1) (-1) s=some (s',k)→Calls pr W8 #[pt r 0] w (RfP src B r p w (vi k) s')
theorem B5p{src:A6}(hs:src.length≤400)(n:Nat)(ih:D5d src n){B r p:Nat}{s s':RF}{k:Int}{w:World}(hw:RfW src 0 s)(ho:s.op≤12)(h:T6 src B r p w s)(hx:A1w src (A1v src n (-1) (-1)) s=some (s',k)):
 Calls pr Z2 #[pt r 0] w (RfP src B r p w (vi k) s'):=by
 refine A8r _ _ _ ?_;unfold A5b;have h00:=hw.o0;refine A9 (B9p (t:=[123]) h hw.el hs om) ?_;rintro _ w3 ⟨rfl,hf3,h3⟩;simp only[C5];have hw3:=(B5s hw (t:=[123]) (by decide) ho).1;unfold A1w at hx;cases hx1:A1v src n (-1) (-1) (W0 src [123] s)with
 |none=>rw[hx1]at hx;cases hx
 |some sa=>
  obtain⟨s1,a⟩:=sa;rw[hx1]at hx;simp only at hx;obtain⟨g1,g2,g3⟩:=B2C n _ _ _ _ _ 0 hw3 hx1;rw[B1k]at g2;refine A9 (ih B r p _ _ _ w3 hw3 h3 hx1) ?_;rintro _ w4 ⟨rfl,hf4,h4⟩;simp only[C5];refine A9 (C4k (t:=[125]) h4 g1.el hs om) ?_;rintro _ w5 ⟨rfl,hf5,h5⟩;simp only[C5];cases hx;exact⟨rfl,(hf3.trans hf4).trans hf5,h5⟩
theorem D8v(q:Int)(w:World):(D0 151 [(8,vi q),(5,vi (-1)),(3,vi (-1))]).run pr w= .ok (.value (.agg #[vi 0,vi 0,vi 0,vi (-1),vi 0,vi (-1),.string (S []),vi 0,vi q,.bool false])) w:=kr
structure SmF(src:A6)(B r p:Nat)(w0:World)(bn:Nat)(x:Nd)(s:RF)(w:World):Prop where
 nd:w.heap[bn]?=some (ndO x)
 at_:T6 src B r p w s
 sf:B2o r p w bn
 fr:FrB B r p w0 w
def SmJ(src:A6)(B r p:Nat)(w0:World)(bn m:Nat)(s':RF)(k:Int)(vs:List Value)(w:World):Prop:=∃x sE,SmF src B r p w0 bn x sE w∧m<sE.ns.length∧putN m x sE=(s',k)
theorem SmF.call{src:A6}{B r p:Nat}{w0 w w':World}{bn:Nat}{x:Nd}{s s':RF}(h:SmF src B r p w0 bn x s w)(hf:FrB B r p w w')(h2:T6 src B r p w' s'):SmF src B r p w0 bn x s' w':=
 ⟨(hf.safe bn h.sf).1.trans h.nd,h2,(hf.safe bn h.sf).2,h.fr.trans hf⟩
theorem SmF.put{src:A6}{B r p:Nat}{w0 w:World}{bn i:Nat}{x x':Nd}{s:RF}{v:Value}(h:SmF src B r p w0 bn x s w)(hB:B≤w0.heap.size)(hb:w0.heap.size≤bn)(e:Option.map (A1C i v) (some (ndO x))=some (ndO x')):SmF src B r p w0 bn x' s (put w bn i v):=
 ⟨by rw[C6,h.nd,e],h.at_.putS h.sf,h.sf.put,h.fr.putN hB hb h.sf.2.2.1⟩
theorem SmF.hr{src:A6}{B r p:Nat}{w0 w:World}{bn:Nat}{x:Nd}{s:RF}(h:SmF src B r p w0 bn x s w):w.heap[r]?=some (.cells #[.string (S src),vi s.en,vi s.at_,.string (S s.txt),pt p 0,vi s.op,vi s.err] C0s):=h.at_.hr
theorem C4G(b:Nat):∀(vs:List Value) (i:Nat) (w:World),Out w (putL w b i vs)
 |[],_,w=>.refl w
 |v::vs,i,w=>((Out.refl w).put (k:=b) (i:=i) (v:=v)).trans (C4G b vs (i+1) (Sh.put w b i v))
theorem okN(x:Nd)(i:Nat)(hi:i<10):R2 (some (ndO x)) i=true:=by
 match i,hi with
 |0,_=>rfl
 |1,_=>rfl
 |2,_=>rfl
 |3,_=>rfl
 |4,_=>rfl
 |5,_=>rfl
 |6,_=>rfl
 |7,_=>rfl
 |8,_=>rfl
 |9,_=>rfl
theorem D0v{src:A6}{B r p m bn:Nat}{w0:World}{s':RF}{k:Int}(hB:B≤w0.heap.size){w:World}{x:Nd}{sE:RF}(h:SmF src B r p w0 bn x sE w)(hm:m<sE.ns.length)(e:putN m x sE=(s',k)):
 ∃nb cap kv,w.heap[p]?=some (.cells #[.slice (some ⟨nb,0,none⟩) sE.ns.length cap,vi 0,vi sE.pts,vi sE.sites,kv] A7o)∧okRow (w.heap[nb]?) (m*10) 10=true∧I0 (w.heap[bn]?) 0 10=some x.v∧
  T6 src B r p (putL w nb (m*10) x.l) s'∧FrB B r p w0 (putL w nb (m*10) x.l)∧k=m:=by
 obtain⟨nv,kv,g1,g2,g3⟩:=h.at_.pg;obtain⟨nb,cap,rfl⟩:=P5.slice g2 (fun hh=>by rw[hh]at hm;exact absurd hm (Nat.not_lt_zero _));obtain⟨q1,cs,f,q3⟩:=P5.blk g2 rfl;have q1:B≤nb:=q1;cases e;have hrp:nb≠r:=fun e=>by rw[e,h.at_.rd]at q3;injection q3 with q3;injection q3 with _ q3;exact absurd q3 (by decide)
 have hpp:nb≠p:=fun e=>by rw[e,g1]at q3;injection q3 with q3;injection q3 with _ q3;exact absurd q3 (by decide)
 refine⟨nb,cap,kv,g1,P5.okRow g2 hm,by rw[h.nd];rfl,⟨by rw[C9 hrp.symm];exact h.at_.rd,⟨_,kv,by rw[C9 hpp.symm];exact g1,?_,?_⟩,h.at_.rB,h.at_.pB,by rw[A0d];exact h.at_.wB⟩,?_,rfl⟩
 ·have:=P5.set g2 hm x;exact this
 ·refine O5 g3 fun c cs' hcs=>?_;have:c≠nb:=fun e=>by rw[e,q3]at hcs;injection hcs with hcs;injection hcs with _ hcs;exact absurd hcs (by decide)
  rw[C9 this];exact hcs
 ·refine⟨by rw[A0d];exact h.fr.size,fun c hc=>by rw[C9 om];exact h.fr.old c hc,h.fr.out.trans (C4G nb x.l (m*10) w),fun c hc=>?_⟩;obtain⟨u1,u2⟩:=h.fr.safe c hc;have hn:=u2.2.2.2 _ _ _ _ _ _ g1;have hcn:c≠nb:=fun e=>hn.1 (by rw[e];rfl);refine⟨by rw[C9 hcn];exact u1,by rw[A0d];exact u2.1,u2.2.1,u2.2.2.1,fun a b d e2 f2 t2 hq=>u2.2.2.2 a b d e2 f2 t2 (by rw[C9 hpp.symm]at hq;exact hq)⟩
end Go.Inv
namespace Go.Inv
open Go.Sh
theorem E2J:B0L pr 22=some 1:=kr
end Go.Inv
namespace Go.Inv
open Go.Sh
theorem sz3:(pr.info? 3).map (·.size)=some 1:=kr
end Go.Inv
namespace Go.Inv
open Go.Sh
theorem D1p(w:World)(x:Obj)(i:Nat):(w.alloc x).heap[i]?=if i=w.heap.size then some x else w.heap[i]?:=by
 split
 ·rename_i h;subst h;exact A5 x
 ·rename_i h;exact D3 h
theorem C8K(w:World)(b i:Nat)(v:Value)(c:Nat):(put w b i v).heap[c]?=if c=b then(w.heap[b]?).map (A1C i v)else w.heap[c]?:=by
 split
 ·rename_i h;subst h;exact C6 _ _
 ·rename_i h;exact A7 h
theorem D5W{t n b i:Nat}{w:World}{K:Value→Prop}(h:A0A pr t=some n):rs pr w (pt b i) t K=A0s (I0 (w.heap[b]?) i n) K (rs pr w (pt b i) t K):=by
 cases hv:I0 (w.heap[b]?) i n with
 |none=>rfl
 |some v=>
  refine propext ⟨fun x=>?_,fun x=>C6w h hv x⟩;obtain⟨u,h1,h2⟩:=x.h;obtain⟨u',h3,h4⟩:=(C6w (K:=fun u=>u=v) h hv rfl).h;rw[h1]at h3;cases h3;rw[←h4];exact h2
def rsX(P:Program)(w:World)(a:Value)(t:TypeId)(K:Value→Prop):Prop:=rs P w a t K
theorem rRs{t n:Nat}(h:A0A pr t=some n):∀w K b i,rs pr w (pt b i) t K=A0s (I0 (w.heap[b]?) i n) K (rsX pr w (pt b i) t K):=fun _ _ _ _=>D5W h
abbrev C8:Nat:=162
abbrev C2r:Nat:=166
theorem D7A(w:World):(B4 C8).run pr w= .ok (.value (pt w.heap.size 0)) (w.alloc (.cells #[vi 0,vi 0] C8)):=kr
theorem D7v(a b:Int)(w:World):(D0 C8 [(0,vi a),(1,vi b)]).run pr w= .ok (.value (.agg #[vi a,vi b])) w:=kr
theorem C2E:∀E w K,o pr E w (B4 C8) K=K (pt w.heap.size 0) (w.alloc (.cells #[vi 0,vi 0] C8)):=fun _ w _=>D5 (D7A w)
theorem D6m:∀E w K a b,o pr E w (D0 C8 [(0,vi a),(1,vi b)]) K=K (.agg #[vi a,vi b]) w:=fun _ w _ a b=>D5 (D7v a b w)
def RL:=yA C2E<|yA D6m (rRs A6o)
def Zz40:=yA @RL<|yA @RT5<|yA @RT<|@RG
def Lm:=yA Nat.add_assoc<|yA D1p<|yA C8K<|yA @C1<|yA @G2 A2W
theorem C2L(a b:Value)(t:Nat):okRow (some (.cells #[a,b] t (0,0))) 0 2=true:=rfl
theorem W9(a b:Value)(t:Nat)(f:Nat×Nat):I0 (some (.cells #[a,b] t f)) 0 2=some (.agg #[a,b]):=rfl
def Zz18:=yA @RV<|@W9
theorem D6H{a b:World}{k i:Nat}{v:Value}(h:D9 a b)(hk:a.heap.size≤k):D9 a (put b k i v):=h.put hk
def OLD:=yA D9.refl<|yA @D9.alloc<|yA @D6H<|yA @D9.dr<|yA Nat.le_refl Nat.le_add_right
def Zz9:=yA @OLD<|yA @C1<|@G2
theorem eqA(n a b:Nat):(n+a=n+b)=(a=b):=by rw[Nat.add_left_cancel_iff]
theorem eqB(n b:Nat):(n=n+b)=(0=b):=propext ⟨fun h=>om,fun h=>om⟩
theorem eqC(n b:Nat):(n+b=n)=(b=0):=propext ⟨fun h=>om,fun h=>om⟩
def Lc:=yA M6<|yA C2L<|yA W9<|yA decide_true<|yA Y6 Bool.and_self
def Zz60:=yA @RV<|yA @C8K<|yA @M6<|yA @C2L<|yA @W9<|yA @Y6<|yA @Lm<|@Lc
def Zz6:=yA @RV<|@Lc
def Zz3:=yA @RV<|yA @Lm<|yA @Lc<|yA @eqA<|yA @eqB<|@eqC
theorem D5T(a b:Int)(w:World):(sB .max [3,3] 3 [vi a,vi b]).run pr w= .ok (.value (vi (max a b))) w:=by
 have h:(if b>a then b else a)=max a b:=by rw[Int.max_def];split<;>split<;>omega
 have hm:(Builtin.max_ #[3,3] 3 #[vi a,vi b]).run pr w= .ok (vi (max a b)) w:=by
  rw[←h];rfl
 simp only[sB,opc,execOp];simp[resolve,invoke,builtin,ev,hm,Result.andThen]
theorem D5S(a b:Int)(w:World):(sB .min [3,3] 3 [vi a,vi b]).run pr w= .ok (.value (vi (min a b))) w:=by
 have h:(if b<a then b else a)=min a b:=by rw[Int.min_def];split<;>split<;>omega
 have hm:(Builtin.min_ #[3,3] 3 #[vi a,vi b]).run pr w= .ok (vi (min a b)) w:=by
  rw[←h];rfl
 simp only[sB,opc,execOp];simp[resolve,invoke,builtin,ev,hm,Result.andThen]
def Ret(v:Value)(w:World):Ye:=fun e w'=>e= .returned v∧D9 w w'
abbrev spV(x:C2):Value:=.agg #[vi x.lo,vi x.hi]
theorem only_ok(sv:Value)(n:Int)(w:World):Calls pr B5z #[sv,vi n] w (Ret (spV ⟨n,n⟩) w):=by
 refine C0G _ _ _ _ ?_;unfold B9h;simp only[↓Zz40,Zz3,Nat.reduceAdd,Nat.reduceEqDiff,↓reduceIte,putL,yL];exact⟨rfl,by simp(maxDischargeDepth:=60)only[Zz9]⟩
theorem whole_ok(sv:Value)(w:World):Calls pr B2O #[sv] w (Ret (spV ⟨-32768,32767⟩) w):=by
 refine B9e _ _ _ ?_;unfold B6k;simp only[↓Zz40,Zz3,Nat.reduceAdd,Nat.reduceEqDiff,↓reduceIte,putL,yL];exact⟨rfl,by simp(maxDischargeDepth:=60)only[Zz9]⟩
theorem B0J(a b:Int)(w:World):Calls pr A1i #[vi a,vi b] w (Ret (spV (A4d a b)) w):=by
 refine B5h _ _ _ _ ?_;unfold B2h;have yes:a< -32768∨b>32767→A4d a b=⟨-32768,32767⟩:=fun h=>by unfold A4d;rw[if_pos h]
 have no:¬(a< -32768∨b>32767)→A4d a b=⟨a,b⟩:=fun h=>by unfold A4d;rw[if_neg h]
 by_cases h1:a< -32768
 ·have d1:decide (a< -32768)=true:=by simpa using h1
  rw[yes (.inl h1)];simp only[↓Zz40,Zz3,Nat.reduceAdd,Nat.reduceEqDiff,↓reduceIte,putL,yL,d1,yC];exact⟨rfl,by simp(maxDischargeDepth:=60)only[Zz9]⟩
 ·have d1:decide (a< -32768)=false:=by simpa using h1
  by_cases h2:b>32767
  ·have d2:decide (b>32767)=true:=by simpa using h2
   rw[yes (.inr h2)];simp only[↓Zz40,Zz3,Nat.reduceAdd,Nat.reduceEqDiff,↓reduceIte,putL,yL,d1,d2,yC];exact⟨rfl,by simp(maxDischargeDepth:=60)only[Zz9]⟩
  ·have d2:decide (b>32767)=false:=by simpa using h2
   rw[no om];simp only[↓Zz40,Zz3,Nat.reduceAdd,Nat.reduceEqDiff,↓reduceIte,putL,yL,d1,d2,yC];exact⟨rfl,by simp(maxDischargeDepth:=60)only[Zz9]⟩
end Go.Inv
namespace Go.Inv
open Go.Sh
theorem E4y:∀E w K a b,o pr E w (sB .max [3,3] 3 [vi a,vi b]) K=K (vi (max a b)) w:=fun _ w _ a b=>D5 (D5T a b w)
theorem E4x:∀E w K a b,o pr E w (sB .min [3,3] 3 [vi a,vi b]) K=K (vi (min a b)) w:=fun _ w _ a b=>D5 (D5S a b w)
theorem E2V(a b c:Int)(w:World):(F2 22 3 [(0,vi a),(1,vi b),(2,vi c)]).run pr w= .ok (.value (.slice (some ⟨w.heap.size,0,none⟩) 3 3)) (w.alloc (.cells #[vi a,vi b,vi c] 3)):=kr
theorem E2U(a b c d:Int)(w:World):(F2 22 4 [(0,vi a),(1,vi b),(2,vi c),(3,vi d)]).run pr w= .ok (.value (.slice (some ⟨w.heap.size,0,none⟩) 4 4)) (w.alloc (.cells #[vi a,vi b,vi c,vi d] 3)):=kr
theorem E4C:∀E w K a b c,o pr E w (F2 22 3 [(0,vi a),(1,vi b),(2,vi c)]) K=K (.slice (some ⟨w.heap.size,0,none⟩) 3 3) (w.alloc (.cells #[vi a,vi b,vi c] 3)):=fun _ w _ a b c=>D5 (E2V a b c w)
theorem E4B:∀E w K a b c d,o pr E w (F2 22 4 [(0,vi a),(1,vi b),(2,vi c),(3,vi d)]) K=K (.slice (some ⟨w.heap.size,0,none⟩) 4 4) (w.alloc (.cells #[vi a,vi b,vi c,vi d] 3)):=fun _ w _ a b c d=>D5 (E2U a b c d w)
def RM:=yA E4y<|yA E4x<|yA E4C E4B
def Zz29:=yA @RM<|yA @RT5<|yA @RT<|@RG
def Zz5:=yA @RL<|yA @RM<|yA @RT5<|yA @RT<|@RG
def A9j(s:C2)(n:Int):C2:=⟨min s.lo n,max s.hi n⟩
theorem A6l{α β:Type}{f:β→α→β}{b:β}{l:List α}{i:Nat}{x:α}(h:l[i]?=some x):(l.take (i+1)).foldl f b=f ((l.take i).foldl f b) x:=by
 rw[List.take_add_one,h];simp
theorem P9.cell{w:World}{v:Value}{l:List Int}(h:P9 w v l){i:Nat}{x:Int}(hx:l[i]?=some x):∃b off c,v= .slice (some ⟨b,off,none⟩) l.length c∧H4 (w.heap[b]?) (off+i)=some (vi x):=by
 rcases h with⟨rfl,_⟩|⟨b,off,c,cs,t,f,h1,h2,h3⟩
 ·simp at hx
 ·exact⟨b,off,c,h1,by rw[h2];exact h3 i x hx⟩
theorem B1t{l:List Int}{v:Value}(f:Int){w:World}(hv:P9 w v l)(hlen:l.length≤1000000):Calls pr A1s #[vi f,v] w (Ret (spV (P6 f l)) w):=by
 refine B3L _ _ _ _ ?_;unfold B0d;obtain⟨sa,sc,hve⟩:=hv.len;rw[hve];simp only[↓Zz40,Zz3,Nat.reduceAdd,Nat.reduceEqDiff,↓reduceIte,putL,yL];rw[←hve];generalize hw1:put (put ((w.alloc (.cells #[vi 0,vi 0] C8)).alloc (.cells #[vi 0,vi 0] C8)) (w.heap.size+1) 0 (vi f)) (w.heap.size+1) 1 (vi f)=w1;have ho1:D9 w w1:=by rw[←hw1];simp(maxDischargeDepth:=60)only[Zz9]
 have hb4:w1.heap[w.heap.size]?=some (.cells #[vi 0,vi 0] C8 (0,0)):=by
  rw[←hw1];simp only[Zz3,Nat.reduceAdd,Nat.reduceEqDiff,↓reduceIte]
 have hb5:w1.heap[w.heap.size+1]?=some (.cells #[vi f,vi f] C8 (0,0)):=by
  rw[←hw1];simp only[Zz3,Nat.reduceAdd,Nat.reduceEqDiff,↓reduceIte]
 clear hw1
 refine⟨fun vs w'=>∃i:Nat,vs=[vi i]∧i≤l.length∧D9 w w'∧w'.heap[w.heap.size]?=some (.cells #[vi 0,vi 0] C8 (0,0))∧w'.heap[w.heap.size+1]?=some (.cells #[vi ((l.take i).foldl A9j ⟨f,f⟩).lo,vi ((l.take i).foldl A9j ⟨f,f⟩).hi] C8 (0,0)),
  fun vs _=>l.length- B9S vs,⟨0,rfl,Nat.zero_le _,ho1,hb4,by simpa using hb5⟩,?_⟩
 rintro e1 w2 ⟨i,he,hi,ho2,hc4,hc5⟩;have he13:e1 13=vi (i:Nat):=by simpa using he
 rw[he13];simp only[↓Zz5,RV];refine D2 (fun hlt=>?_) (fun hlt=>?_)
 ·have hlt:i<l.length:=by simpa using hlt
  have hx:l[i]?=some l[i]:=by simp[hlt]
  obtain⟨b,off,c,hvb,hcell⟩:=(hv.old ho2).cell hx;have hst:=A6l (f:=A9j) (b:=⟨f,f⟩) hx;have hwi:IntKind.i64.wrap ((i:Int)+1)=((i+1:Nat):Int):=by rw[H2 om om];omega
  rw[hvb];simp only[(T1 B4o (Int.natCast_nonneg i) (by omega:(i:Int)<(l.length:Nat))).o,Int.toNat_natCast,Nat.mul_one,hcell,hc5,↓Zz5,RV,Nat.reduceLT,decide_true,hwi];refine⟨⟨i+1,rfl,hlt,(ho2.put om).put om,?_,?_⟩,by simp[B9S];omega⟩
  ·rw[A7 om,A7 om];exact hc4
  ·rw[hst];rfl
 ·have hil:i=l.length:=by
   have:¬i<l.length:=by simpa using hlt
   omega
  subst hil;rw[List.take_length]at hc5;simp only[↓Zz5,Zz3,hc4,hc5,Nat.reduceAdd,Nat.reduceEqDiff,↓reduceIte,putL,yL];refine⟨rfl,?_⟩;exact(ho2.put (Nat.le_refl _)).put (Nat.le_refl _)
theorem wr{n:Int}(h: -9223372036854775808≤n)(h2:n≤9223372036854775807):IntKind.i64.wrap n=n:=H2 h h2
abbrev A3d(v:Value)(b:Bool):Value:=.tuple #[v,.bool b]
theorem D1n(sv:Value){x:C2}(hx:Q6 x)(w:World):Calls pr B2P #[sv,spV x] w (Ret (spV (A4d (-x.hi) (-x.lo))) w):=by
 refine B9i _ _ _ _ ?_;unfold B6m;obtain⟨h1,h2,h3⟩:=hx;have e1:IntKind.i64.wrap (0- x.hi)=-x.hi:=by rw[wr om om];omega
 have e2:IntKind.i64.wrap (0- x.lo)=-x.lo:=by rw[wr om om];omega
 simp only[↓Zz5,Zz3,Nat.reduceAdd,Nat.reduceEqDiff,↓reduceIte,putL,yL,e1,e2];refine A9 (B0J _ _ _) ?_;rintro e w2 ⟨rfl,ho2⟩;have hb:w2.heap[w.heap.size+2]?=some (.cells #[vi 0,vi 0] C8 (0,0)):=by
  refine ho2.heap ?_;simp only[Zz3,Nat.reduceAdd,Nat.reduceEqDiff,↓reduceIte]
 have ho:D9 w w2:=by
  refine D9.trans ?_ ho2;simp(maxDischargeDepth:=60)only[Zz9]
 simp only[C5,↓Zz5,Zz3,hb,Nat.reduceAdd,Nat.reduceEqDiff,↓reduceIte,putL,yL];exact⟨rfl,(ho.put om).put om⟩
theorem D3I(sv:Value)(x:C2)(w:World):Calls pr B5x #[sv,spV x] w (Ret (.bool (decide (x.lo≤0)&&decide (0≤x.hi))) w):=by
 refine C0E _ _ _ _ ?_;unfold B9c;simp only[↓Zz5,Zz3,Nat.reduceAdd,Nat.reduceEqDiff,↓reduceIte,putL,yL];cases h:decide (x.lo≤0)
 ·simp only[↓RG,RV,yC];exact⟨rfl,by simp(maxDischargeDepth:=60)only[Zz9]⟩
 ·simp only[↓RG,RV,yC];exact⟨rfl,by simp(maxDischargeDepth:=60)only[Zz9]⟩
theorem D3Z(sv:Value)(x y:C2)(w:World):Calls pr B5A #[sv,spV x,spV y] w (Ret (spV (P6 x.lo [x.hi,y.lo,y.hi])) w):=by
 refine C0I _ _ _ _ _ ?_;unfold B9k;simp only[↓Zz5,Zz3,Nat.reduceAdd,Nat.reduceEqDiff,↓reduceIte,putL,yL];refine A9 (B1t (l:=[x.hi,y.lo,y.hi]) _ (.inr ⟨_,0,3,_,_,_,rfl,by simp only[Zz3,Nat.reduceAdd,Nat.reduceEqDiff,↓reduceIte];rfl,?_⟩) (by simp)) ?_
 ·intro j z hj
  match j with
  |0=>simp at hj;subst hj;rfl
  |1=>simp at hj;subst hj;rfl
  |2=>simp at hj;subst hj;rfl
  |n+3=>simp at hj
 rintro e w2 ⟨rfl,ho2⟩;have hb:w2.heap[w.heap.size+3]?=some (.cells #[vi 0,vi 0] C8 (0,0)):=by
  refine ho2.heap ?_;simp only[Zz3,Nat.reduceAdd,Nat.reduceEqDiff,↓reduceIte]
 have ho:D9 w w2:=by
  refine D9.trans ?_ ho2;simp(maxDischargeDepth:=60)only[Zz9]
 simp only[C5,↓Zz5,Zz3,hb,Nat.reduceAdd,Nat.reduceEqDiff,↓reduceIte,putL,yL];exact⟨rfl,(ho.put om).put om⟩
theorem B9T(sv:Value)(x y:C2)(w:World):Calls pr A5y #[sv,spV x,spV y] w (Ret (A3d (spV (A3A x y).1) (A3A x y).2) w):=by
 refine C0H _ _ _ _ _ ?_;unfold B9j;simp only[↓Zz5,Zz3,Nat.reduceAdd,Nat.reduceEqDiff,↓reduceIte,putL,yL];exact⟨rfl,by simp(maxDischargeDepth:=60)only[OLD,C1,G2,A8o]⟩
theorem E0n(a b:Int)(w:World):(D0 100 [(0,vi a),(1,vi b)]).run pr w= .ok (.value (.agg #[vi a,vi b])) w:=kr
theorem E0y(w:World):(B4 100).run pr w= .ok (.value (pt w.heap.size 0)) (w.alloc (.cells #[vi 0,vi 0] 100)):=kr
theorem D9p:∀E w K,o pr E w (B4 100) K=K (pt w.heap.size 0) (w.alloc (.cells #[vi 0,vi 0] 100)):=fun _ w _=>D5 (E0y w)
theorem D9j:∀E w K a b,o pr E w (D0 100 [(0,vi a),(1,vi b)]) K=K (.agg #[vi a,vi b]) w:=fun _ w _ a b=>D5 (E0n a b w)
def E5h:=yA D9p<|yA D9j (rRs B4x)
theorem D3N(sv:Value)(x:C2)(w:World):Calls pr B5y #[sv,spV x] w (Ret (spV x) w):=by
 refine C0F _ _ _ _ ?_;unfold B9g;simp only[↓E5h,↓RL,↓RM,↓RT5,↓RT,↓RG,Zz3,Nat.reduceAdd,Nat.reduceEqDiff,↓reduceIte,putL,yL];exact⟨rfl,by simp(maxDischargeDepth:=60)only[Zz9]⟩
def E5p(w0:World)(bi bn br:Nat)(x n:C2)(vs:List Value)(w:World):Prop:=vs=[pt bi 0,pt bn 0,pt br 0]∧D9 w0 w∧w0.heap.size≤bi∧w0.heap.size≤br∧bi≠bn∧bi≠br∧w.heap[bi]?=some (.cells #[vi x.lo,vi x.hi] C8 (0,0))∧
 w.heap[bn]?=some (.cells #[vi n.lo,vi n.hi] C8 (0,0))∧w.heap[br]?=some (.cells #[vi 0,vi 0] C8 (0,0))
def E5o(w0:World)(bi br:Nat)(x:C2)(_:List Value)(w:World):Prop:=D9 w0 w∧w0.heap.size≤br∧w.heap[bi]?=some (.cells #[vi x.lo,vi x.hi] C8 (0,0))∧w.heap[br]?=some (.cells #[vi 0,vi 0] C8 (0,0))
theorem C7n(sv:Value)(x n:C2)(w:World):Calls pr B0u #[sv,spV x,spV n] w (Ret (spV (Q0 x n)) w):=by
 refine B6S _ _ _ _ _ ?_;unfold B3J;refine⟨E5p w (w.heap.size+1) (w.heap.size+2) (w.heap.size+3) ⟨if x.lo=-32768 then n.lo else x.lo,x.hi⟩ n,?_,?_⟩
 ·rintro e1 w1 ⟨he,ho,h1,h2,h3,h4,hb1,hb2,hb3⟩;obtain⟨e4,e5,e6⟩:e1 4=pt (w.heap.size+1) 0∧e1 5=pt (w.heap.size+2) 0∧e1 6=pt (w.heap.size+3) 0:=by simpa using he
  rw[e4,e5,e6];refine⟨E5o w (w.heap.size+1) (w.heap.size+3) (Q0 x n),?_,?_⟩
  ·rintro e2 w2 ⟨ho2,g2,hc1,hc3⟩;simp only[↓Zz5,Zz6,hc1,hc3,↓reduceIte,putL,yL];exact⟨rfl,(ho2.put g2).put g2⟩
  ·simp only[↓Zz5,RV,hb1,hb2,hb3];by_cases hh:x.hi=32767
   ·have d:(x.hi==32767)=true:=by simpa using hh
    simp only[d,↓Zz5,RV,hb1,hb2,Nat.reduceLT,decide_true];refine⟨ho.put h1,h2,?_,by rw[A7 om];exact hb3⟩;rw[C6,hb1];simp only[Q0,hh,if_true];rfl
   ·have d:(x.hi==32767)=false:=by simpa using hh
    simp only[d,↓Zz5,RV];refine⟨ho,h2,?_,hb3⟩;rw[hb1];simp only[Q0,hh,if_false]
 ·simp only[↓Zz5,Zz3,Nat.reduceAdd,Nat.reduceEqDiff,↓reduceIte];by_cases hh:x.lo=-32768
  ·have d:(x.lo== -32768)=true:=by simpa using hh
   simp only[d,↓Zz5,Zz3,Nat.reduceAdd,Nat.reduceEqDiff,↓reduceIte,Nat.reduceLT];refine⟨rfl,?_,om,om,om,om,?_,?_,?_⟩
   ·simp(maxDischargeDepth:=60)only[Zz9]
   ·simp only[Zz3,Nat.reduceAdd,Nat.reduceEqDiff,↓reduceIte,hh]
   ·simp only[Zz3,Nat.reduceAdd,Nat.reduceEqDiff,↓reduceIte]
   ·simp only[Zz3,Nat.reduceAdd,Nat.reduceEqDiff,↓reduceIte]
  ·have d:(x.lo== -32768)=false:=by simpa using hh
   simp only[d,↓Zz5,Zz3,Nat.reduceAdd,Nat.reduceEqDiff,↓reduceIte];refine⟨rfl,?_,om,om,om,om,?_,?_,?_⟩
   ·simp(maxDischargeDepth:=60)only[Zz9]
   ·simp only[Zz3,Nat.reduceAdd,Nat.reduceEqDiff,↓reduceIte,hh]
   ·simp only[Zz3,Nat.reduceAdd,Nat.reduceEqDiff,↓reduceIte]
   ·simp only[Zz3,Nat.reduceAdd,Nat.reduceEqDiff,↓reduceIte]
end Go.Inv
